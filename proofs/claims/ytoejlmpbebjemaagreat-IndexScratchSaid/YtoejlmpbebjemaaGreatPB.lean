/- Posting lists of layer 38 as cells, and their copies. The documents of posting lists of layer 38. Valid of layer 38. Valid of layer 38: the whole. Valid, Count and Few of the reference of layer 38, and Count of the program. Same of the reference of layer 38, and same of the law. Near of layer 38: what it asks of two positions; whether some number of a list passes a test; searching among ascending numbers. Searching among ascending numbers.
  Conditions: lengths below 1000 or 5000, as each theorem says. -/
import Derived.Test.YtoejlmpbebjemaaGreatPA
set_option linter.all false
set_option maxRecDepth 100000
set_option maxHeartbeats 2000000
open List (getD_eq_getElem?_getD)
namespace Go.Proofs.YtoejlmpbebjemaaGreat
open Go.Proofs.Tryz(prog)
open Go Go.Am cN
@[simp] theorem M1 (v w:AV):iq [v,w] 2=[v,w]:=rfl
def bD (l:List (Int×List Int)):List AV:=l.flatMap λp=>[.int .i64 p.1,.sl p.2.length (ints p.2) .none]
def tJ:bD []=[]:=rfl
theorem bc (l:List (Int×List Int)):(bD l).length=l.length*2:=by
 induction l with
 |nil=>rfl
 |cons p l ih=>simp only[bD,ahK,ahw,ahY,ais] at ih ⊢;omega
@[simp] theorem acN (n t:Nat) (l:List (Int×List Int)):aL n t (bD l):=by
 intro v hv;obtain⟨p,_,hv⟩:=ah7.1 hv;simp at hv;rcases hv with rfl|rfl<;>simp
def qR (p:Int×List Int)(l:List (Int×List Int)):bD (p::l)=.int .i64 p.1::.sl p.2.length (ints p.2) .none::bD l:=by simp[bD]
def oh (l:List (Int×List Int))(d:Int)(at_:List Int):bD l++[.int .i64 d,.sl at_.length (ints at_) .none]=bD (l++[(d,at_)]):=by simp[bD]
theorem iH:∀(l:List (Int×List Int)) (i:Nat),i<l.length->(bD l).getD (i*2) .top=.int .i64 (l.getD i (0,[])).1/\(bD l).getD (i*2+1) .top=.sl (l.getD i (0,[])).2.length (ints (l.getD i (0,[])).2) .none:=by
 intro l
 induction l with
 |nil=>intro i h;simp at h
 |cons p l ih=>
  intro i h
  cases i with
  |zero=>rw[qR];exact⟨rfl,rfl⟩
  |succ i=>
   have:=ih i (zU h);rw[qR,show (i+1)*2=i*2+1+1 by omega];exact this
theorem mI:∀(l:List (Int×List Int)) (i:Nat),i<l.length->((bD l).drop (i*2)).take 2=[.int .i64 (l.getD i (0,[])).1,.sl (l.getD i (0,[])).2.length (ints (l.getD i (0,[])).2) .none]:=by
 intro l
 induction l with
 |nil=>intro i h;simp at h
 |cons p l ih=>
  intro i h
  cases i with
  |zero=>rw[qR];rfl
  |succ i=>
   have:=ih i (zU h);rw[qR,show (i+1)*2=i*2+1+1 by omega];exact this
def LI (l:List (Int×List Int))(k:Nat)(h:k<l.length):bD (l.take k)++[.int .i64 (l.getD k (0,[])).1,.sl (l.getD k (0,[])).2.length (ints (l.getD k (0,[])).2) .none]=bD (l.take (k+1)):=by
 rw[oh,show ((l.getD k (0,[])).1,(l.getD k (0,[])).2)=l.getD k (0,[]) from rfl]
 congr 1
 rw[aiS h];simp[h]
attribute [-simp] getD_eq_getElem?_getD in
def KZ (l:List (Int×List Int))(hl:l.length<=5000)(H:List aA)(T:au)(tg:Tag):aq prog 47 [.sl l.length (bD l) tg] H T (Is (.sl l.length (bD l) .none) H T):=by
 refine aq.bR ?_;refine aq.bK ?_ zS;refine ah 5 [] Tryz.ntmps47 Tryz.func47 rfl (λ_ _=>Tryz.call47 _ _) zS (λHO=>?_);refine af ?_;refine af ?_;refine ae λK1 aN=>?_;refine af ?_;apply ag;refine ki 3 0 2 [] zO zS ?_;refine aG (X:=Nat) (λk=>⟨[(0,.sl l.length (bD l) .none),(3,.sl k (bD (l.take k)) (.own T.length)),(4,.int .i64 (k:Nat))],H,T++[(k*2,2)]⟩) (λk=>k<=l.length) (λk=>l.length-k) 0 ?_ ?_ ?_
 ·exact ahE _
 ·refine ak [] [] ?_ ?_ ?_ ?_ (HO.fS zS) ?_
  all_goals simp[tJ]
 ·intro k hk;refine ae λK2 ba=>?_;refine af ?_;refine aV rfl (λeL=>?_) (λeL=>?_)
  ·simp  at eL;have bB:=mI l k eL;have sM:(bD (l.take k)).length=k*2:=by rw[bc,ahW];omega
   apply aj;refine zQ ?_;apply ba;clear ba;refine ae λK3 bH=>?_;apply ag;refine br λK hK=>?_;simp(disch:=omega)[bB,bc,sM,LI l k eL];apply hK;apply bH;clear bH;refine aJ ?_;refine⟨k+1,by show k+1<=_;omega,by show l.length-(k+1)<l.length-k;omega,?_⟩;exact wk (HO.fS zS)
  ·simp at eL;have:k=l.length:=zO;subst this;apply aD;refine zQ ?_;apply aN;clear aN;refine af ?_;exact bu zC
def aw (l:List (Int×List Int)):List Int:=l.map (·.1)
def A8 (l:List (Int×List Int))(k:Nat)(h:k<l.length):ints (aw (l.take k))++[.int .i64 (l.getD k (0,[])).1]=ints (aw (l.take (k+1))):=by
 have e:l.take (k+1)=l.take k++[l.getD k (0,[])]:=by
  rw[aiS h];simp[h]
 rw[e,cJ];simp[aw]
attribute [-simp] getD_eq_getElem?_getD in
def E5 (l:List (Int×List Int))(hl:l.length<=5000)(H:List aA)(T:au)(tg:Tag):aq prog 165 [.sl l.length (bD l) tg] H T (Is (.sl l.length (ints (aw l)) .none) H T):=by
 refine aq.bR ?_;refine aq.bK ?_ zS;refine ah 5 [] Tryz.ntmps165 Tryz.func165 rfl (λ_ _=>Tryz.call165 _ _) zS (λHO=>?_);refine af ?_;refine af ?_;refine ae λK1 aN=>?_;refine af ?_;apply ag;refine ki 3 0 1 [] zO zS ?_;refine aG (X:=Nat) (λk=>⟨[(0,.sl l.length (bD l) .none),(3,.sl k (ints (aw (l.take k))) (.own T.length)),(4,.int .i64 (k:Nat))],H,T++[(k,1)]⟩) (λk=>k<=l.length) (λk=>l.length-k) 0 ?_ ?_ ?_
 ·exact ahE _
 ·refine ak [] [] ?_ ?_ ?_ ?_ (HO.fS zS) ?_
  all_goals simp[aw,ints]
 ·intro k hk;refine ae λK2 ba=>?_;refine af ?_;refine aV rfl (λeL=>?_) (λeL=>?_)
  ·simp  at eL;have gA:=(iH l k eL).1;have sM:(ints (aw (l.take k))).length=k:=by simp[aw,ints];omega
   have gV:=A8 l k eL;generalize ints (aw (l.take k))=out at *;apply aj;refine zQ ?_;apply ba;clear ba;refine ae λK3 bH=>?_;apply ag;refine br λK hK=>?_;simp(disch:=omega)[gA,bc,sM,gV];apply hK;apply bH;clear bH;refine aJ ?_;refine⟨k+1,by show k+1<=_;omega,by show l.length-(k+1)<l.length-k;omega,?_⟩;exact wk (HO.fS zS)
  ·simp at eL;have:k=l.length:=zO;subst this;apply aD;refine zQ ?_;apply aN;clear aN;refine af ?_;exact bu zC
attribute [-simp] getD_eq_getElem?_getD in
def ud (l:List (Int×List Int))(hl:l.length<=5000)(H:List aA)(T:au)(tg:Tag):aq prog 108 [.sl l.length (bD l) tg] H T (Is (.sl l.length (ints (aw l)) .none) H T):=by
 refine aq.bR ?_;refine aq.bK ?_ zS;refine ah 12 [] Tryz.ntmps108 Tryz.func108 rfl (λ_ _=>Tryz.call108 _ _) zS (λHO=>?_);refine af ?_;refine af ?_;refine ae λK1 aN=>?_;refine af ?_;apply ag;refine aG (X:=Nat) (λk=>⟨[(3,.sl k (ints (aw (l.take k))) (.own T.length)),(9,.sl l.length (bD l) .none),(10,.int .i64 (l.length:Nat)),(11,.int .i64 (k:Nat))],H,T++[(k,1)]⟩) (λk=>k<=l.length) (λk=>l.length-k) 0 ?_ ?_ ?_
 ·exact ahE _
 ·refine ak [] [] ?_ ?_ ?_ ?_ (HO.fS zS) ?_
  all_goals simp[aw,ints]
 ·intro k hk;refine af ?_;refine ae λK2 ba=>?_;refine aV rfl (λeL=>?_) (λeL=>?_)
  ·simp  at eL;have bB:=mI l k eL;have sM:(ints (aw (l.take k))).length=k:=by simp[aw,ints];omega
   have gV:=A8 l k eL;generalize ints (aw (l.take k))=out at *;apply aj;refine zQ ?_;apply ba;clear ba;refine ae λK3 bH=>?_;apply ag;apply ar;simp(disch:=omega)[bB,bc];refine br λK hK=>?_;simp(disch:=omega)[sM,gV];apply hK;apply bH;clear bH;refine aJ ?_;refine⟨k+1,by show k+1<=_;omega,by show l.length-(k+1)<l.length-k;omega,?_⟩;refine ak [.cells [.int .i64 (l.getD k (0,[])).1,.sl (l.getD k (0,[])).2.length (ints (l.getD k (0,[])).2) .none]] [] ?_ ?_ ?_ ?_ (HO.fS zS) ?_
   all_goals simp
  ·simp at eL;have:k=l.length:=zO;subst this;apply aD;refine zQ ?_;apply aN;clear aN;refine af ?_;exact bu zC
def jl (p:Int×List Int):Bool:=decide (p.2.length=0)||!jI p.2 0 1000000
def cC (l:List (Int×List Int)):Bool:=jI (aw l) 1 1000000000&&!l.any jl
attribute [-simp] getD_eq_getElem?_getD in
def KU (p:Int×List Int)(hp:p.2.length<=maxLen)(H:List aA)(T:au):aq prog 141 [.agg [.int .i64 p.1,.sl p.2.length (ints p.2) .none]] H T (Is (.bool (jl p)) H T):=by
 refine aq.bK ?_ zS;have c:=O1 p.2 0 1000000 hp (H++[.cells [.int .i64 p.1,.sl p.2.length (ints p.2) .none]]) T .none;refine ah 3 [] Tryz.ntmps141 Tryz.func141 rfl (λ_ _=>Tryz.call141 _ _) zS (λHO=>?_);refine af ?_
 by_cases h0:p.2.length=0
 ·have b:((p.2.length:Int)==0)=true:=by rw[h0];rfl
  have h1:(p.2.length:Int)=0:=zO;have h2:p.2=[]:=ah5 h0;apply ar;simp(disch:=omega)[b,h1,h2];refine aI ?_;simp[jl,h0]
 ·have b:((p.2.length:Int)==0)=false:=by rw[ah8];omega
  have h2:¬p.2=[]:=λe=>h0 (by rw[e];rfl);apply ar;simp(disch:=omega)[b,h2];refine ai (c) ?_;refine zQ ?_;refine aI ?_;simp[jl,h2]
attribute [-simp] getD_eq_getElem?_getD in
theorem Qf (l:List (Int×List Int))(hl:l.length<=5000)(hp:∀p∈l,p.2.length<=maxLen)(H:List aA)(T:au) :
  aq prog 182 [.sl l.length (bD l) .none,.fn 141 [] []] H T (λr H' T'=>H'=H/\T'=T/\∃v:Int,r=.int .i64 v/\decide (0<=v)=l.any jl):=by
 generalize hq:l.any jl=q;refine ah 9 [] Tryz.ntmps182 Tryz.func182 rfl (λ_ _=>Tryz.call182 _ _) zS (λHO=>?_);refine af ?_;refine ae λK1 aN=>?_;refine af ?_;apply ag;refine aG (X:=Nat) (λk=>⟨[(0,.sl l.length (bD l) .none),(1,.fn 141 [] []),(7,.int .i64 (l.length:Nat)),(8,.int .i64 (k:Nat))],H,T⟩) (λk=>k<=l.length/\∀j,j<k->jl (l.getD j (0,[]))=false) (λk=>l.length-k) 0 ?_ ?_ ?_
 ·exact⟨ahE _,λj hj=>absurd hj (ahT _)⟩
 ·exact wk HO
 ·rintro k ⟨h1,h2⟩;refine af ?_;refine ae λK2 ba=>?_;refine aV rfl (λhk=>?_) (λhk=>?_)
  ·simp  at hk;have bB:=mI l k hk;have hm:l.getD k (0,[])∈l:=by
    rw[ahs,ahu hk];exact ah2 hk
   have c:=KU (l.getD k (0,[])) (hp _ hm) H T;apply aj;refine zQ ?_;apply ba;clear ba;refine ae λK3 bH=>?_;apply ag;refine af ?_
   cases hb:jl (l.getD k (0,[])) with
   |true=>
    rw[hb] at c;apply ar;simp(disch:=omega)[bB,bc];refine ai (c) ?_;refine zQ ?_;apply aC rfl;refine af ?_;refine aI ?_;have:l.any jl=true:=ai6.2 ⟨_,hm,hb⟩;rw[hq] at this;simp[this]
   |false=>
    rw[hb] at c;apply ar;simp(disch:=omega)[bB,bc];refine ai (c) ?_;refine zQ ?_;apply aB rfl;apply aj;refine zQ ?_;apply bH;clear bH;refine aJ ?_;refine⟨k+1,⟨by show k+1<=_;omega,λj hj=>?_⟩,by show l.length-(k+1)<l.length-k;omega,?_⟩
    ·rcases ahD j k with h3|h3
     ·exact h2 j h3
     ·have:j=k:=zO;subst this;exact hb
    ·exact wk HO
  ·simp  at hk;have hn:l.any jl=false:=by
    rw[ajm];intro p RJ;obtain⟨j,hj,e⟩:=ahN.1 RJ;have:=h2 j zO;rw[ahs,ahu hj] at this;simp only[ai5,e] at this;simp[this]
   apply aD;refine zQ ?_;apply aN;clear aN;refine af ?_;refine aI ?_;rw[hq] at hn;simp[hn]
attribute [-simp] getD_eq_getElem?_getD in
def F7 (l:List (Int×List Int))(hl:l.length<=5000)(hp:∀p∈l,p.2.length<=maxLen)(H:List aA)(T:au) :
  aq prog 142 [.sl l.length (bD l) .none,.fn 141 [] []] H T (Is (.bool (l.any jl)) H T):=by
 have c:=Qf l hl hp H T;generalize l.any jl=q at *;refine ah 5 [] Tryz.ntmps142 Tryz.func142 rfl (λ_ _=>Tryz.call142 _ _) zS (λHO=>?_);refine af ?_;apply ar;refine zQ ?_;refine⟨_,c,?_⟩;rintro r H' T' ⟨rfl,rfl,v,rfl,hv⟩;simp(disch:=omega)[hv];refine aI ?_;exact⟨rfl,rfl,rfl⟩
attribute [-simp] getD_eq_getElem?_getD in
theorem jP (l:List (Int×List Int))(hl:l.length<=5000)(hp:∀p∈l,p.2.length<=maxLen)(H:List aA)(T:au)(tg:Tag) :
  aq prog 79 [.sl l.length (bD l) tg] H T (Is (.bool (cC l)) H T):=by
 refine aq.bR ?_;have c1:=ud l hl H T .none;have kW:(aw l).length=l.length:=by simp[aw]
 have c2:=iN (aw l) (by rw[kW];exact ahA hl zD) H T .none;rw[kW] at c2;have c3:=F7 l hl hp H T;unfold cC;generalize l.any jl=q at *;refine ah 4 [] Tryz.ntmps79 Tryz.func79 rfl (λ_ _=>Tryz.call79 _ _) zS (λHO=>?_);refine af ?_;refine af ?_
 cases hv:jI (aw l) 1 1000000000 with
 |false=>
  rw[hv] at c2;apply ar;refine zQ ?_;refine ai (c1) ?_;refine zQ ?_;refine ai (c2) ?_;refine zQ ?_;refine aI ?_;exact⟨rfl,rfl,rfl⟩
 |true=>
  rw[hv] at c2;apply ar;refine zQ ?_;refine ai (c1) ?_;refine zQ ?_;refine ai (c2) ?_;refine zQ ?_;refine ai (c3) ?_;refine zQ ?_;refine aI ?_;exact⟨rfl,rfl,rfl⟩
theorem sQ {α:Type}(l:List α)(k:Nat)(d:α)(h:k<l.length):l.getD k d∈l:=by
 rw[ahs,ahu h];exact ah2 h
theorem jQ {α:Type}{l:List α}{x:α}(d:α)(h:x∈l):∃k,k<l.length/\l.getD k d=x:=by
 obtain⟨j,hj,e⟩:=ahN.1 h;refine⟨j,hj,?_⟩;rw[ahs,ahu hj];exact e
def Hu {l:List (Int×List Int)}{k:Nat}(hk:k<l.length)(h:jl (l.getD k (0,[]))=true):cC l=false:=by
 have:l.any jl=true:=ai6.2 ⟨_,sQ l k _ hk,h⟩;simp[cC,this]
def FD {l:List (Int×List Int)}(h:∀j,j<l.length->jl (l.getD j (0,[]))=false):cC l=jI (aw l) 1 1000000000:=by
 have:l.any jl=false:=by
  rw[ajm];intro p hp;obtain⟨j,hj,e⟩:=jQ (0,[]) hp;rw[<-e,h j hj];simp
 simp[cC,this]
attribute [-simp] getD_eq_getElem?_getD in
def As (l:List (Int×List Int))(hl:l.length<=5000)(hp:∀p∈l,p.2.length<=maxLen)(H:List aA)(T:au)(tg:Tag) :
  aq prog 135 [.sl l.length (bD l) tg] H T (Is (.bool (cC l)) H T):=by
 refine aq.bR ?_;have kW:(aw l).length=l.length:=by simp[aw]
 have c1:=E5 l hl H T .none;have c2:=eV (aw l) (by rw[kW];exact ahA hl zD) H T .none;rw[kW] at c2;generalize hq:cC l=q;refine ah 6 [] Tryz.ntmps135 Tryz.func135 rfl (λ_ _=>Tryz.call135 _ _) zS (λHO=>?_);refine af ?_;refine ae λK1 aN=>?_;refine af ?_;apply ag;refine aG (X:=Nat) (λk=>⟨[(0,.sl l.length (bD l) .none),(3,.int .i64 (k:Nat))],H,T⟩) (λk=>k<=l.length/\∀j,j<k->jl (l.getD j (0,[]))=false) (λk=>l.length-k) 0 ?_ ?_ ?_
 ·exact⟨ahE _,λj hj=>absurd hj (ahT _)⟩
 ·exact wk HO
 ·rintro k ⟨h1,h2⟩;refine ae λK2 ba=>?_;refine af ?_;refine aV rfl (λhk=>?_) (λhk=>?_)
  ·simp  at hk;have gA:=(iH l k hk).2;have c:=JL (l.getD k (0,[])).2 0 1000000 (hp _ (sQ l k _ hk)) H T .none;have uq:jl (l.getD k (0,[]))=true->q=false:=λh=>by rw[<-hq];exact Hu hk h
   have j8:jl (l.getD k (0,[]))=false->∀j,j<k+1->jl (l.getD j (0,[]))=false:=λh j hj=>by
    rcases ahD j k with h3|h3
    ·exact h2 j h3
    ·have:j=k:=zO;subst this;exact h
   generalize l.getD k (0,[])=p at gA c uq j8;apply aj;refine zQ ?_;apply ba;clear ba;refine ae λK3 bH=>?_;apply ag
   by_cases h0:p.2=[]
   ·have b:((p.2.length:Int)==0)=true:=by rw[h0];rfl
    apply ar;simp(disch:=omega)[gA,bc,b,h0];apply aC rfl;refine af ?_;refine aI ?_;rw[uq (by simp[jl,h0])];exact⟨rfl,rfl,rfl⟩
   ·have b:((p.2.length:Int)==0)=false:=by rw[ah8];intro e;exact h0 (ah5 zO)
    cases ha:jI p.2 0 1000000
    ·rw[ha] at c;apply ar;simp(disch:=omega)[gA,bc,b,h0];refine ai (c) ?_;refine zQ ?_;apply aC rfl;refine af ?_;refine aI ?_;rw[uq (by simp[jl,ha])];exact⟨rfl,rfl,rfl⟩
    ·rw[ha] at c;apply ar;simp(disch:=omega)[gA,bc,b,h0];refine ai (c) ?_;refine zQ ?_;apply aB rfl;apply aj;refine zQ ?_;apply bH;clear bH;refine aJ ?_;refine⟨k+1,⟨by show k+1<=_;omega,j8 (by simp[jl,ha,h0])⟩,by show l.length-(k+1)<l.length-k;omega,?_⟩;exact wk HO
  ·simp  at hk;have hn:=FD (l:=l) (λj hj=>h2 j zO);rw[<-hn,hq] at c2;apply aD;refine zQ ?_;apply aN;clear aN;apply ar;refine zQ ?_;refine ai (c1) ?_;refine zQ ?_;refine ai (c2) ?_;refine zQ ?_;refine aI ?_;exact⟨rfl,rfl,rfl⟩
attribute [-simp] getD_eq_getElem?_getD in
def Py (a b:List (Int×List Int))(ha:a.length<=5000)(hb:b.length<=5000)(RH:∀p∈a,p.2.length<=maxLen)(RG:∀p∈b,p.2.length<=maxLen)(H:List aA)(T:au)(ta tb:Tag) :
  aq prog 93 [.sl a.length (bD a) ta,.sl b.length (bD b) tb] H T (Is (.bool (decide (a=b))) H T):=by
 refine aq.bR (aq.mC ?_);refine ah 6 [] Tryz.ntmps93 Tryz.func93 rfl (λ_ _=>Tryz.call93 _ _) zS (λHO=>?_);refine af ?_;refine ae λK1 aN=>?_;refine af ?_;refine aV rfl (λh=>?_) (λh=>?_)
 ·simp  at h;refine af ?_;refine aI ?_;have:¬a=b:=by intro e;subst e;exact h rfl
  rw[ahy this];exact⟨rfl,rfl,rfl⟩
 ·simp  at h;have hl:a.length=b.length:=zO;apply aj;refine zQ ?_;apply aN;clear aN;refine ae λK1 aN=>?_;refine af ?_;apply ag;refine aG (X:=Nat) (λi=>⟨[(0,.sl a.length (bD a) .none),(1,.sl b.length (bD b) .none),(5,.int .i64 (i:Nat))],H,T⟩) (λi=>i<=a.length/\∀j,j<i->a.getD j (0,[])=b.getD j (0,[])) (λi=>a.length-i) 0 ?_ ?_ ?_
  ·exact⟨zO,λj hj=>by omega⟩
  ·exact wk HO
  ·rintro i ⟨hi,hj⟩;refine ae λK2 ba=>?_;refine af ?_;refine aV rfl (λh=>?_) (λh=>?_)
   ·simp  at h;have nC:=iH a i h;have Bu:=iH b i zO;have hmA:a.getD i (0,[])∈a:=by
     rw[ahs,ahu h];exact ah2 h
    have hmB:b.getD i (0,[])∈b:=by
     rw[ahs,ahu (show i<b.length by omega)];exact ah2 _
    have c:=qu (a.getD i (0,[])).2 (b.getD i (0,[])).2 (RH _ hmA) (RG _ hmB) H T .none .none;have fe:a.getD i (0,[])=b.getD i (0,[])->∀j,j<i+1->a.getD j (0,[])=b.getD j (0,[]):=λhe j bU=>by
     rcases ahD j i with h1|h1
     ·exact hj j h1
     ·have:j=i:=zO;subst this;exact he
    have nQ:a.getD i (0,[])≠b.getD i (0,[])->¬a=b:=λh e=>h (by rw[e]);have Wo:i<b.length:=zO;generalize a.getD i (0,[])=p at nC c fe nQ;generalize b.getD i (0,[])=q at Bu c fe nQ;apply aj;refine zQ ?_;apply ba;clear ba;refine ae λK3 bH=>?_;apply ag
    by_cases he:p.1=q.1
    ·have bb:(p.1!=q.1)=false:=by simp[he]
     cases hs:(p.2==q.2)
     ·rw[hs] at c;refine bC [] [] [] ?_;simp(disch:=omega)[nC.1,nC.2,Bu.1,Bu.2,bc,he,Wo];refine az (c) rfl ?_;refine zQ ?_;apply aC rfl;refine af ?_;refine aI ?_;have:¬a=b:=nQ (λe=>by rw[e] at hs;simp at hs);rw[ahy this];exact⟨rfl,rfl,rfl⟩
     ·rw[hs] at c;refine bC [] [] [] ?_;simp(disch:=omega)[nC.1,nC.2,Bu.1,Bu.2,bc,he,Wo];refine az (c) rfl ?_;refine zQ ?_;apply aB rfl;apply aj;refine zQ ?_;apply bH;clear bH;refine aJ ?_;refine⟨i+1,⟨zO,fe (Prod.ext he (zU hs))⟩,zO,?_⟩;exact wk HO
    ·have CW:(p.1!=q.1)=true:=bne_iff_ne.2 he;refine bC [] [] [] ?_;simp(disch:=omega)[nC.1,nC.2,Bu.1,Bu.2,bc,CW,Wo];apply aC rfl;refine af ?_;refine aI ?_;have:¬a=b:=nQ (λe=>he (by rw[e]));rw[ahy this];exact⟨rfl,rfl,rfl⟩
   ·simp  at h;apply aD;refine zQ ?_;apply aN;clear aN;refine af ?_;refine aI ?_;refine⟨?_,rfl,rfl⟩;have:a=b:=Cj (0,[]) hl (λj bU=>hj j zO);simp[this]
attribute [-simp] getD_eq_getElem?_getD in
def Jo (x y:Int)(H:List aA)(T:au):aq prog 169 [.int .i64 x,.int .i64 y] H T (Is (.bool (decide (x<y))) H T):=by
 have n1:∀z,aq prog 174 [.int .i64 z] H T (Is (.bool false) H T):=λz=>by
  refine ah 3 [] Tryz.ntmps174 Tryz.func174 rfl (λ_ _=>Tryz.call174 _ _) zS (λHO=>?_);refine af ?_;refine af ?_;refine aI ?_;exact⟨rfl,rfl,rfl⟩
 generalize hq:decide (x<y)=q;refine ah 5 [] Tryz.ntmps169 Tryz.func169 rfl (λ_ _=>Tryz.call169 _ _) zS (λHO=>?_);refine af ?_;apply ar;refine zQ ?_;refine ai (n1 x) ?_;refine zQ ?_
 (try simp(disch:=omega)[hq])
 refine aI ?_;exact⟨rfl,rfl,rfl⟩
attribute [-simp] getD_eq_getElem?_getD in
def Qc (z:Int)(H:List aA)(T:au):aq prog 170 [.int .i64 z] H T (Is (.bool false) H T):=by
 refine ah 3 [] Tryz.ntmps170 Tryz.func170 rfl (λ_ _=>Tryz.call170 _ _) zS (λHO=>?_);refine af ?_;refine af ?_;refine aI ?_;exact⟨rfl,rfl,rfl⟩
def qJ {l:List Int}(h:kI l){i j:Nat}(jV:i<j)(hj:j<l.length):l.getD i 0<l.getD j 0:=by
 have:=(ah6.1 h) i j zO hj jV;rw[ahs,ahs,ahu hj,ahu (show i<l.length by omega)];exact this
attribute [-simp] getD_eq_getElem?_getD in
def Ix (l:List Int)(t:Int)(hs:kI l)(hl:l.length<=5000)(H:List aA)(T:au)(tg:Tag) :
  aq prog 113 [.sl l.length (ints l) tg,.int .i64 t] H T (λr H' T'=>H'=H/\T'=T/\∃i:Int,r=.dn [.int .i64 i,.bool (decide (t∈l))]):=by
 refine aq.bR ?_;refine ah 10 [] Tryz.ntmps113 Tryz.func113 rfl (λ_ _=>Tryz.call113 _ _) zS (λHO=>?_);refine af ?_;refine af ?_;refine af ?_;refine ae λK1 aN=>?_;apply ag;refine aG (X:=Nat×Nat) (λx=>⟨[(0,.sl l.length (ints l) .none),(1,.int .i64 t),(6,.int .i64 (l.length:Nat)),(7,.int .i64 (x.1:Nat)),(8,.int .i64 (x.2:Nat))],H,T⟩)
  (λx=>x.1<=x.2/\x.2<=l.length/\(∀j,j<x.1->l.getD j 0<t)/\(∀j,x.2<=j->j<l.length->t<=l.getD j 0)) (λx=>x.2-x.1) (0,l.length) ?_ ?_ ?_
 ·exact⟨ahE _,ahv _,λj hj=>absurd hj (ahT _),λj h1 h2=>absurd h2 (Nat.not_lt.2 h1)⟩
 ·exact wk HO
 ·rintro⟨lo,hi⟩ ⟨h1,h2,h3,h4⟩;simp only at h1 h2 h3 h4;refine ae λK2 ba=>?_;refine af ?_;refine aV rfl (λhk=>?_) (λhk=>?_)
  ·simp  at hk;have hm:(lo+hi) / 2<l.length:=zO;have Yy:=aS (xs:=l) (k:=(lo+hi) / 2) hm;apply aj;refine zQ ?_;apply ba;clear ba;apply ag;refine af ?_;rw[show ((lo:Int)+hi) / 2=(((lo+hi) / 2:Nat):Int) by omega];have oG:lo<=(lo+hi) / 2:=zO;have bp:(lo+hi) / 2<hi:=zO;generalize (lo+hi) / 2=m at *
   by_cases hc:l.getD m 0<t
   ·have c:=Jo (l.getD m 0) t H T;rw[ahx hc] at c;apply ar;simp(disch:=omega)[Yy];refine ai (c) ?_;refine zQ ?_;apply aC rfl;refine aJ ?_;refine⟨(m+1,hi),⟨by show m+1<=hi;omega,h2,λj hj=>?_,h4⟩,by show hi-(m+1)<hi-lo;omega,?_⟩
    ·rcases ahD j m with h5|h5
     ·have:=qJ hs h5 hm;omega
     ·have:j=m:=by simp only at hj;omega
      subst this;exact hc
    ·exact wk HO
   ·have c:=Jo (l.getD m 0) t H T;rw[ahy hc] at c;apply ar;simp(disch:=omega)[Yy];refine ai (c) ?_;refine zQ ?_;apply aB rfl;refine aJ ?_;refine⟨(lo,m),⟨oG,by show m<=l.length;omega,h3,λj hj y5=>?_⟩,by show m-lo<hi-lo;omega,?_⟩
    ·rcases ahD m j with h5|h5
     ·have:=qJ hs h5 y5;omega
     ·have:j=m:=by simp only at hj;omega
      subst this;omega
    ·exact wk HO
  ·simp  at hk;have e:hi=lo:=zO;subst e;apply aD;refine zQ ?_;apply aN;clear aN;have cn:=λz=>Qc z H T
   by_cases hn:hi<l.length
   ·have Yy:=aS (xs:=l) (k:=hi) hn
    by_cases he:l.getD hi 0=t
    ·have gO:t∈l:=by rw[<-he];exact sQ l hi 0 hn
     have b:(l.getD hi 0==t)=true:=by simpa using he
     apply ar;simp(disch:=omega)[Yy,hn,b,he];refine aI ?_;simp[gO]
    ·have gO:¬t∈l:=λhm=>by
      obtain⟨j,hj,e⟩:=jQ 0 hm;rcases ai7 j hi with h5|h5|h5
      ·have:=h3 j h5;omega
      ·subst h5;exact he e
      ·have:=qJ hs h5 hj;have:=h4 hi (ahv _) hn;omega
     have b:(l.getD hi 0==t)=false:=by simpa using he
     apply ar;simp(disch:=omega)[Yy,hn,b,he];refine ai (cn _) ?_;refine zQ ?_;refine aI ?_;simp[gO]
   ·have gO:¬t∈l:=λhm=>by
     obtain⟨j,hj,e⟩:=jQ 0 hm;have:=h3 j zO;omega
    apply ar;simp(disch:=omega)[hn];refine aI ?_;simp[gO]
end Go.Proofs.YtoejlmpbebjemaaGreat
