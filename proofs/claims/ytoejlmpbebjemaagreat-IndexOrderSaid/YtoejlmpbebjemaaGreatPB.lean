/- Posting lists of layer 38 as cells, and their copies. The documents of posting lists of layer 38. Valid of layer 38. Valid of layer 38: the whole. Valid, Count and Few of the reference of layer 38, and Count of the program. Same of the reference of layer 38, and same of the law. Near of layer 38: what it asks of two positions; whether some number of a list passes a test; searching among ascending numbers. Searching among ascending numbers.
  Conditions: lengths below 1000 or 5000, as each theorem says. -/
import Derived.Test.YtoejlmpbebjemaaGreatPA
set_option linter.all false
set_option maxRecDepth 100000
set_option maxHeartbeats 2000000
open List (getD_eq_getElem?_getD)
namespace Go.Proofs.YtoejlmpbebjemaaGreat
open Go.Proofs.Tryz(prog)
open Go Go.Am cL
@[simp] theorem M9 (v w:AV):gA [v,w] 2=[v,w]:=rfl
def bA (l:List (Int×List Int)):List AV:=l.flatMap λp=>[.int .i64 p.1,.sl p.2.length (ints p.2) .none]
def tu:bA []=[]:=rfl
theorem bt (l:List (Int×List Int)):(bA l).length=l.length*2:=by
 induction l with
 |nil=>rfl
 |cons p l ih=>simp only[bA,ahy,ahk,ahS,aiB] at ih ⊢;omega
@[simp] theorem acI (n t:Nat) (l:List (Int×List Int)):aK n t (bA l):=by
 intro v hv;obtain⟨p,_,hv⟩:=ah1.1 hv;simp at hv;rcases hv with rfl|rfl<;>simp
def qu (p:Int×List Int)(l:List (Int×List Int)):bA (p::l)=.int .i64 p.1::.sl p.2.length (ints p.2) .none::bA l:=by simp[bA]
def nQ (l:List (Int×List Int))(d:Int)(at_:List Int):bA l++[.int .i64 d,.sl at_.length (ints at_) .none]=bA (l++[(d,at_)]):=by simp[bA]
theorem j5:∀(l:List (Int×List Int)) (i:Nat),i<l.length->(bA l).getD (i*2) .top=.int .i64 (l.getD i (0,[])).1/\(bA l).getD (i*2+1) .top=.sl (l.getD i (0,[])).2.length (ints (l.getD i (0,[])).2) .none:=by
 intro l
 induction l with
 |nil=>intro i h;simp at h
 |cons p l ih=>
  intro i h
  cases i with
  |zero=>rw[qu];exact⟨rfl,rfl⟩
  |succ i=>
   have:=ih i (by simpa using h);rw[qu,show (i+1)*2=i*2+1+1 by omega];exact this
theorem mj:∀(l:List (Int×List Int)) (i:Nat),i<l.length->((bA l).drop (i*2)).take 2=[.int .i64 (l.getD i (0,[])).1,.sl (l.getD i (0,[])).2.length (ints (l.getD i (0,[])).2) .none]:=by
 intro l
 induction l with
 |nil=>intro i h;simp at h
 |cons p l ih=>
  intro i h
  cases i with
  |zero=>rw[qu];rfl
  |succ i=>
   have:=ih i (by simpa using h);rw[qu,show (i+1)*2=i*2+1+1 by omega];exact this
def LP (l:List (Int×List Int))(k:Nat)(h:k<l.length):bA (l.take k)++[.int .i64 (l.getD k (0,[])).1,.sl (l.getD k (0,[])).2.length (ints (l.getD k (0,[])).2) .none]=bA (l.take (k+1)):=by
 rw[nQ,show ((l.getD k (0,[])).1,(l.getD k (0,[])).2)=l.getD k (0,[]) from rfl]
 congr 1
 rw[aiG h];simp[h]
attribute [-simp] getD_eq_getElem?_getD in
def zZ (l:List (Int×List Int))(hl:l.length<=5000)(H:List az)(T:au)(tg:Tag):ar prog 47 [.sl l.length (bA l) tg] H T (Is (.sl l.length (bA l) .none) H T):=by
 refine ar.cg ?_;refine ar.bV ?_ (by simp);refine ah 5 [] Tryz.ntmps47 Tryz.func47 rfl (λ_ _=>Tryz.call47 _ _) (by simp) (λHO=>?_);apply ae;intro K Z;simp(disch:=omega);apply Z;apply ae;intro K Z;simp(disch:=omega);apply Z;refine af λK1 aO=>?_;apply ae;intro K Z;simp(disch:=omega);apply Z;apply aj;refine m9 3 0 2 [] (by omega) (by simp) ?_;refine aI (X:=Nat) (λk=>⟨[(0,.sl l.length (bA l) .none),(3,.sl k (bA (l.take k)) (.own T.length)),(4,.int .i64 (k:Nat))],H,T++[(k*2,2)]⟩) (λk=>k<=l.length) (λk=>l.length-k) 0 ?_ ?_ ?_
 ·exact ahu _
 ·refine ag [] [] ?_ ?_ ?_ ?_ (HO.kC (by simp)) ?_
  all_goals simp[tu]
 ·intro k hk;refine af λK2 bc=>?_;apply ae;intro K Z;simp(disch:=omega);apply Z;refine aT rfl (λgq=>?_) (λgq=>?_)
  ·simp  at gq;have hcut:=mj l k gq;have vL:(bA (l.take k)).length=k*2:=by rw[bt,ahJ];omega
   apply aq;simp(disch:=omega) ;apply bc;clear bc;refine af λK3 bD=>?_;apply aj;refine aB λK hK=>?_;simp(disch:=omega)[hcut,bt,vL,LP l k gq];apply hK;apply bD;clear bD;refine aB λK hK=>?_;simp(disch:=omega) ;apply hK;refine⟨k+1,by show k+1<=_;omega,by show l.length-(k+1)<l.length-k;omega,?_⟩;refine ag [] [] ?_ ?_ ?_ ?_ (HO.kC (by simp)) ?_
   all_goals simp
  ·simp at gq;have:k=l.length:=by omega
   subst this;apply aF;simp(disch:=omega) ;apply aO;clear aO;apply ae;intro K Z;simp(disch:=omega);apply Z;apply ay;simp(disch:=omega) 
def aA (l:List (Int×List Int)):List Int:=l.map (·.1)
def AO (l:List (Int×List Int))(k:Nat)(h:k<l.length):ints (aA (l.take k))++[.int .i64 (l.getD k (0,[])).1]=ints (aA (l.take (k+1))):=by
 have e:l.take (k+1)=l.take k++[l.getD k (0,[])]:=by
  rw[aiG h];simp[h]
 rw[e,eG];simp[aA]
attribute [-simp] getD_eq_getElem?_getD in
def aa5 (l:List (Int×List Int))(hl:l.length<=5000)(H:List az)(T:au)(tg:Tag):ar prog 165 [.sl l.length (bA l) tg] H T (Is (.sl l.length (ints (aA l)) .none) H T):=by
 refine ar.cg ?_;refine ar.bV ?_ (by simp);refine ah 5 [] Tryz.ntmps165 Tryz.func165 rfl (λ_ _=>Tryz.call165 _ _) (by simp) (λHO=>?_);apply ae;intro K Z;simp(disch:=omega);apply Z;apply ae;intro K Z;simp(disch:=omega);apply Z;refine af λK1 aO=>?_;apply ae;intro K Z;simp(disch:=omega);apply Z;apply aj;refine m9 3 0 1 [] (by omega) (by simp) ?_;refine aI (X:=Nat) (λk=>⟨[(0,.sl l.length (bA l) .none),(3,.sl k (ints (aA (l.take k))) (.own T.length)),(4,.int .i64 (k:Nat))],H,T++[(k,1)]⟩) (λk=>k<=l.length) (λk=>l.length-k) 0 ?_ ?_ ?_
 ·exact ahu _
 ·refine ag [] [] ?_ ?_ ?_ ?_ (HO.kC (by simp)) ?_
  all_goals simp[aA,ints]
 ·intro k hk;refine af λK2 bc=>?_;apply ae;intro K Z;simp(disch:=omega);apply Z;refine aT rfl (λgq=>?_) (λgq=>?_)
  ·simp  at gq;have jv:=(j5 l k gq).1;have vL:(ints (aA (l.take k))).length=k:=by simp[aA,ints];omega
   have iH:=AO l k gq;generalize ints (aA (l.take k))=out at *;apply aq;simp(disch:=omega) ;apply bc;clear bc;refine af λK3 bD=>?_;apply aj;refine aB λK hK=>?_;simp(disch:=omega)[jv,bt,vL,iH];apply hK;apply bD;clear bD;refine aB λK hK=>?_;simp(disch:=omega) ;apply hK;refine⟨k+1,by show k+1<=_;omega,by show l.length-(k+1)<l.length-k;omega,?_⟩;refine ag [] [] ?_ ?_ ?_ ?_ (HO.kC (by simp)) ?_
   all_goals simp
  ·simp at gq;have:k=l.length:=by omega
   subst this;apply aF;simp(disch:=omega) ;apply aO;clear aO;apply ae;intro K Z;simp(disch:=omega);apply Z;apply ay;simp(disch:=omega) 
attribute [-simp] getD_eq_getElem?_getD in
def tR (l:List (Int×List Int))(hl:l.length<=5000)(H:List az)(T:au)(tg:Tag):ar prog 108 [.sl l.length (bA l) tg] H T (Is (.sl l.length (ints (aA l)) .none) H T):=by
 refine ar.cg ?_;refine ar.bV ?_ (by simp);refine ah 12 [] Tryz.ntmps108 Tryz.func108 rfl (λ_ _=>Tryz.call108 _ _) (by simp) (λHO=>?_);apply ae;intro K Z;simp(disch:=omega);apply Z;apply ae;intro K Z;simp(disch:=omega);apply Z;refine af λK1 aO=>?_;apply ae;intro K Z;simp(disch:=omega);apply Z;apply aj;refine aI (X:=Nat) (λk=>⟨[(3,.sl k (ints (aA (l.take k))) (.own T.length)),(9,.sl l.length (bA l) .none),(10,.int .i64 (l.length:Nat)),(11,.int .i64 (k:Nat))],H,T++[(k,1)]⟩) (λk=>k<=l.length) (λk=>l.length-k) 0 ?_ ?_ ?_
 ·exact ahu _
 ·refine ag [] [] ?_ ?_ ?_ ?_ (HO.kC (by simp)) ?_
  all_goals simp[aA,ints]
 ·intro k hk;apply ae;intro K Z;simp(disch:=omega);apply Z;refine af λK2 bc=>?_;refine aT rfl (λgq=>?_) (λgq=>?_)
  ·simp  at gq;have hcut:=mj l k gq;have vL:(ints (aA (l.take k))).length=k:=by simp[aA,ints];omega
   have iH:=AO l k gq;generalize ints (aA (l.take k))=out at *;apply aq;simp(disch:=omega) ;apply bc;clear bc;refine af λK3 bD=>?_;apply aj;refine ae λK hK=>?_;simp(disch:=omega)[hcut,bt];apply hK;refine aB λK hK=>?_;simp(disch:=omega)[vL,iH];apply hK;apply bD;clear bD;refine aB λK hK=>?_;simp(disch:=omega) ;apply hK;refine⟨k+1,by show k+1<=_;omega,by show l.length-(k+1)<l.length-k;omega,?_⟩;refine ag [.cells [.int .i64 (l.getD k (0,[])).1,.sl (l.getD k (0,[])).2.length (ints (l.getD k (0,[])).2) .none]] [] ?_ ?_ ?_ ?_ (HO.kC (by simp)) ?_
   all_goals simp
  ·simp at gq;have:k=l.length:=by omega
   subst this;apply aF;simp(disch:=omega) ;apply aO;clear aO;apply ae;intro K Z;simp(disch:=omega);apply Z;apply ay;simp(disch:=omega) 
def nG (p:Int×List Int):Bool:=decide (p.2.length=0)||!oZ p.2 0 1000000
def dT (l:List (Int×List Int)):Bool:=oZ (aA l) 1 1000000000&&!l.any nG
attribute [-simp] getD_eq_getElem?_getD in
def K9 (p:Int×List Int)(hp:p.2.length<=maxLen)(H:List az)(T:au):ar prog 141 [.agg [.int .i64 p.1,.sl p.2.length (ints p.2) .none]] H T (Is (.bool (nG p)) H T):=by
 refine ar.bV ?_ (by simp);have c:=Pc p.2 0 1000000 hp (H++[.cells [.int .i64 p.1,.sl p.2.length (ints p.2) .none]]) T .none;refine ah 3 [] Tryz.ntmps141 Tryz.func141 rfl (λ_ _=>Tryz.call141 _ _) (by simp) (λHO=>?_);apply ae;intro K Z;simp(disch:=omega);apply Z
 by_cases h0:p.2.length=0
 ·have b:((p.2.length:Int)==0)=true:=by rw[h0];rfl
  have h1:(p.2.length:Int)=0:=by omega
  have h2:p.2=[]:=ahT h0;refine ae λK hK=>?_;simp(disch:=omega)[b,h1,h2];apply hK;apply ay;simp(disch:=omega) ;simp[nG,h0]
 ·have b:((p.2.length:Int)==0)=false:=by rw[ah5];omega
  have h2:¬p.2=[]:=λe=>h0 (by rw[e];rfl);refine ae λK hK=>?_;simp(disch:=omega)[b,h2];refine ak (c) ?_;simp(disch:=omega) ;apply hK;apply ay;simp(disch:=omega) ;simp[nG,h2]
attribute [-simp] getD_eq_getElem?_getD in
theorem Qt (l:List (Int×List Int))(hl:l.length<=5000)(hp:∀p∈l,p.2.length<=maxLen)(H:List az)(T:au) :
  ar prog 182 [.sl l.length (bA l) .none,.fn 141 [] []] H T (λr H' T'=>H'=H/\T'=T/\∃v:Int,r=.int .i64 v/\decide (0<=v)=l.any nG):=by
 generalize hq:l.any nG=q;refine ah 9 [] Tryz.ntmps182 Tryz.func182 rfl (λ_ _=>Tryz.call182 _ _) (by simp) (λHO=>?_);apply ae;intro K Z;simp(disch:=omega);apply Z;refine af λK1 aO=>?_;apply ae;intro K Z;simp(disch:=omega);apply Z;apply aj;refine aI (X:=Nat) (λk=>⟨[(0,.sl l.length (bA l) .none),(1,.fn 141 [] []),(7,.int .i64 (l.length:Nat)),(8,.int .i64 (k:Nat))],H,T⟩) (λk=>k<=l.length/\∀j,j<k->nG (l.getD j (0,[]))=false) (λk=>l.length-k) 0 ?_ ?_ ?_
 ·exact⟨ahu _,λj hj=>absurd hj (ahO _)⟩
 ·refine ag [] [] ?_ ?_ ?_ ?_ HO ?_
  all_goals simp
 ·rintro k ⟨h1,h2⟩;apply ae;intro K Z;simp(disch:=omega);apply Z;refine af λK2 bc=>?_;refine aT rfl (λhk=>?_) (λhk=>?_)
  ·simp  at hk;have hcut:=mj l k hk;have hm:l.getD k (0,[])∈l:=by
    rw[ahg,ahi hk];exact ahP hk
   have c:=K9 (l.getD k (0,[])) (hp _ hm) H T;apply aq;simp(disch:=omega) ;apply bc;clear bc;refine af λK3 bD=>?_;apply aj;apply ae;intro K Z;simp(disch:=omega);apply Z
   cases hb:nG (l.getD k (0,[])) with
   |true=>
    rw[hb] at c;refine ae λK hK=>?_;simp(disch:=omega)[hcut,bt];refine ak (c) ?_;simp(disch:=omega) ;apply hK;apply aG rfl;apply ae;intro K Z;simp(disch:=omega);apply Z;apply ay;simp(disch:=omega) ;have:l.any nG=true:=aiY.2 ⟨_,hm,hb⟩;rw[hq] at this;simp[this]
   |false=>
    rw[hb] at c;refine ae λK hK=>?_;simp(disch:=omega)[hcut,bt];refine ak (c) ?_;simp(disch:=omega) ;apply hK;apply aD rfl;apply aq;simp(disch:=omega) ;apply bD;clear bD;refine aB λK hK=>?_;simp(disch:=omega) ;apply hK;refine⟨k+1,⟨by show k+1<=_;omega,λj hj=>?_⟩,by show l.length-(k+1)<l.length-k;omega,?_⟩
    ·rcases ahr j k with h3|h3
     ·exact h2 j h3
     ·have:j=k:=by omega
      subst this;exact hb
    ·refine ag [] [] ?_ ?_ ?_ ?_ HO ?_
     all_goals simp
  ·simp  at hk;have hn:l.any nG=false:=by
    rw[ai9];intro p RN;obtain⟨j,hj,e⟩:=ahB.1 RN;have:=h2 j (by omega);rw[ahg,ahi hj] at this;simp only[aiU,e] at this;simp[this]
   apply aF;simp(disch:=omega) ;apply aO;clear aO;apply ae;intro K Z;simp(disch:=omega);apply Z;apply ay;simp(disch:=omega) ;rw[hq] at hn;simp[hn]
attribute [-simp] getD_eq_getElem?_getD in
def FW (l:List (Int×List Int))(hl:l.length<=5000)(hp:∀p∈l,p.2.length<=maxLen)(H:List az)(T:au) :
  ar prog 142 [.sl l.length (bA l) .none,.fn 141 [] []] H T (Is (.bool (l.any nG)) H T):=by
 have c:=Qt l hl hp H T;generalize l.any nG=q at *;refine ah 5 [] Tryz.ntmps142 Tryz.func142 rfl (λ_ _=>Tryz.call142 _ _) (by simp) (λHO=>?_);apply ae;intro K Z;simp(disch:=omega);apply Z;refine ae λK hK=>?_;simp(disch:=omega) ;refine⟨_,c,?_⟩;rintro r H' T' ⟨rfl,rfl,v,rfl,hv⟩;simp(disch:=omega)[hv];apply hK;apply ay;simp(disch:=omega) ;exact⟨rfl,rfl,rfl⟩
attribute [-simp] getD_eq_getElem?_getD in
theorem jD (l:List (Int×List Int))(hl:l.length<=5000)(hp:∀p∈l,p.2.length<=maxLen)(H:List az)(T:au)(tg:Tag) :
  ar prog 79 [.sl l.length (bA l) tg] H T (Is (.bool (dT l)) H T):=by
 refine ar.cg ?_;have c1:=tR l hl H T .none;have hdl:(aA l).length=l.length:=by simp[aA]
 have c2:=iD (aA l) (by rw[hdl];exact aho hl (by decide)) H T .none;rw[hdl] at c2;have c3:=FW l hl hp H T;unfold dT;generalize l.any nG=q at *;refine ah 4 [] Tryz.ntmps79 Tryz.func79 rfl (λ_ _=>Tryz.call79 _ _) (by simp) (λHO=>?_);apply ae;intro K Z;simp(disch:=omega);apply Z;apply ae;intro K Z;simp(disch:=omega);apply Z
 cases hv:oZ (aA l) 1 1000000000 with
 |false=>
  rw[hv] at c2;refine ae λK hK=>?_;simp(disch:=omega) ;refine ak (c1) ?_;simp(disch:=omega) ;refine ak (c2) ?_;simp(disch:=omega) ;apply hK;apply ay;simp(disch:=omega) ;exact⟨rfl,rfl,rfl⟩
 |true=>
  rw[hv] at c2;refine ae λK hK=>?_;simp(disch:=omega) ;refine ak (c1) ?_;simp(disch:=omega) ;refine ak (c2) ?_;simp(disch:=omega) ;refine ak (c3) ?_;simp(disch:=omega) ;apply hK;apply ay;simp(disch:=omega) ;exact⟨rfl,rfl,rfl⟩
def vS {α:Type}(l:List α)(k:Nat)(d:α)(h:k<l.length):l.getD k d∈l:=by
 rw[ahg,ahi h];exact ahP h
def ml {α:Type}{l:List α}{x:α}(d:α)(h:x∈l):∃k,k<l.length/\l.getD k d=x:=by
 obtain⟨j,hj,e⟩:=ahB.1 h;refine⟨j,hj,?_⟩;rw[ahg,ahi hj];exact e
attribute [-simp] getD_eq_getElem?_getD in
def PK (a b:List (Int×List Int))(ha:a.length<=5000)(hb:b.length<=5000)(VP:∀p∈a,p.2.length<=maxLen)(hpb:∀p∈b,p.2.length<=maxLen)(H:List az)(T:au)(ta tb:Tag) :
  ar prog 93 [.sl a.length (bA a) ta,.sl b.length (bA b) tb] H T (Is (.bool (decide (a=b))) H T):=by
 refine ar.cg (ar.uk ?_);refine ah 6 [] Tryz.ntmps93 Tryz.func93 rfl (λ_ _=>Tryz.call93 _ _) (by simp) (λHO=>?_);apply ae;intro K Z;simp(disch:=omega);apply Z;refine af λK1 aO=>?_;apply ae;intro K Z;simp(disch:=omega);apply Z;refine aT rfl (λh=>?_) (λh=>?_)
 ·simp  at h;apply ae;intro K Z;simp(disch:=omega);apply Z;apply ay;simp(disch:=omega) ;have:¬a=b:=by intro e;subst e;exact h rfl
  rw[ahn this];exact⟨rfl,rfl,rfl⟩
 ·simp  at h;have hl:a.length=b.length:=by omega
  apply aq;simp(disch:=omega) ;apply aO;clear aO;refine af λK1 aO=>?_;apply ae;intro K Z;simp(disch:=omega);apply Z;apply aj;refine aI (X:=Nat) (λi=>⟨[(0,.sl a.length (bA a) .none),(1,.sl b.length (bA b) .none),(5,.int .i64 (i:Nat))],H,T⟩) (λi=>i<=a.length/\∀j,j<i->a.getD j (0,[])=b.getD j (0,[])) (λi=>a.length-i) 0 ?_ ?_ ?_
  ·exact⟨by omega,λj hj=>by omega⟩
  ·refine ag [] [] ?_ ?_ ?_ ?_ HO ?_
   all_goals simp
  ·rintro i ⟨hi,hj⟩;refine af λK2 bc=>?_;apply ae;intro K Z;simp(disch:=omega);apply Z;refine aT rfl (λh=>?_) (λh=>?_)
   ·simp  at h;have pj:=j5 a i h;have hib:=j5 b i (by omega);have hmA:a.getD i (0,[])∈a:=by
     rw[ahg,ahi h];exact ahP h
    have hmB:b.getD i (0,[])∈b:=by
     rw[ahg,ahi (show i<b.length by omega)];exact ahP _
    have c:=p9 (a.getD i (0,[])).2 (b.getD i (0,[])).2 (VP _ hmA) (hpb _ hmB) H T .none .none;have hst:a.getD i (0,[])=b.getD i (0,[])->∀j,j<i+1->a.getD j (0,[])=b.getD j (0,[]):=λhe j hj'=>by
     rcases ahr j i with h1|h1
     ·exact hj j h1
     ·have:j=i:=by omega
      subst this;exact he
    have hno:a.getD i (0,[])≠b.getD i (0,[])->¬a=b:=λh e=>h (by rw[e]);have Wp:i<b.length:=by omega
    generalize a.getD i (0,[])=p at pj c hst hno;generalize b.getD i (0,[])=q at hib c hst hno;apply aq;simp(disch:=omega) ;apply bc;clear bc;refine af λK3 bD=>?_;apply aj
    by_cases he:p.1=q.1
    ·have bb:(p.1!=q.1)=false:=by simp[he]
     cases hs:(p.2==q.2)
     ·rw[hs] at c;refine aJ [] [] [] aw (by kernel_rfl) (by kernel_rfl) λK hK=>?_;simp(disch:=omega)[pj.1,pj.2,hib.1,hib.2,bt,he,Wp];refine aC (c) rfl ?_;simp(disch:=omega) ;apply hK;apply aG rfl;apply ae;intro K Z;simp(disch:=omega);apply Z;apply ay;simp(disch:=omega) ;have:¬a=b:=hno (λe=>by rw[e] at hs;simp at hs);rw[ahn this];exact⟨rfl,rfl,rfl⟩
     ·rw[hs] at c;refine aJ [] [] [] aw (by kernel_rfl) (by kernel_rfl) λK hK=>?_;simp(disch:=omega)[pj.1,pj.2,hib.1,hib.2,bt,he,Wp];refine aC (c) rfl ?_;simp(disch:=omega) ;apply hK;apply aD rfl;apply aq;simp(disch:=omega) ;apply bD;clear bD;refine aB λK hK=>?_;simp(disch:=omega) ;apply hK;refine⟨i+1,⟨by omega,hst (Prod.ext he (by simpa using hs))⟩,by omega,?_⟩;refine ag [] [] ?_ ?_ ?_ ?_ HO ?_
      all_goals simp
    ·have CG:(p.1!=q.1)=true:=bne_iff_ne.2 he;refine aJ [] [] [] aw (by kernel_rfl) (by kernel_rfl) λK hK=>?_;simp(disch:=omega)[pj.1,pj.2,hib.1,hib.2,bt,CG,Wp];apply hK;apply aG rfl;apply ae;intro K Z;simp(disch:=omega);apply Z;apply ay;simp(disch:=omega) ;have:¬a=b:=hno (λe=>he (by rw[e]));rw[ahn this];exact⟨rfl,rfl,rfl⟩
   ·simp  at h;apply aF;simp(disch:=omega) ;apply aO;clear aO;apply ae;intro K Z;simp(disch:=omega);apply Z;apply ay;simp(disch:=omega) ;refine⟨?_,rfl,rfl⟩;have:a=b:=B5 (0,[]) hl (λj hj'=>hj j (by omega));simp[this]
attribute [-simp] getD_eq_getElem?_getD in
def JD (x y:Int)(H:List az)(T:au):ar prog 169 [.int .i64 x,.int .i64 y] H T (Is (.bool (decide (x<y))) H T):=by
 have n1:∀z,ar prog 174 [.int .i64 z] H T (Is (.bool false) H T):=λz=>by
  refine ah 3 [] Tryz.ntmps174 Tryz.func174 rfl (λ_ _=>Tryz.call174 _ _) (by simp) (λHO=>?_);apply ae;intro K Z;simp(disch:=omega);apply Z;apply ae;intro K Z;simp(disch:=omega);apply Z;apply ay;simp(disch:=omega) ;exact⟨rfl,rfl,rfl⟩
 generalize hq:decide (x<y)=q;refine ah 5 [] Tryz.ntmps169 Tryz.func169 rfl (λ_ _=>Tryz.call169 _ _) (by simp) (λHO=>?_);apply ae;intro K Z;simp(disch:=omega);apply Z;refine ae λK hK=>?_;simp(disch:=omega) ;refine ak (n1 x) ?_;simp(disch:=omega) 
 (try simp(disch:=omega)[hq])
 apply hK;apply ay;simp(disch:=omega) ;exact⟨rfl,rfl,rfl⟩
attribute [-simp] getD_eq_getElem?_getD in
def Qq (z:Int)(H:List az)(T:au):ar prog 170 [.int .i64 z] H T (Is (.bool false) H T):=by
 refine ah 3 [] Tryz.ntmps170 Tryz.func170 rfl (λ_ _=>Tryz.call170 _ _) (by simp) (λHO=>?_);apply ae;intro K Z;simp(disch:=omega);apply Z;apply ae;intro K Z;simp(disch:=omega);apply Z;apply ay;simp(disch:=omega) ;exact⟨rfl,rfl,rfl⟩
def ql {l:List Int}(h:kz l){i j:Nat}(hij:i<j)(hj:j<l.length):l.getD i 0<l.getD j 0:=by
 have:=(ahN.1 h) i j (by omega) hj hij;rw[ahg,ahg,ahi hj,ahi (show i<l.length by omega)];exact this
attribute [-simp] getD_eq_getElem?_getD in
def IG (l:List Int)(t:Int)(hs:kz l)(hl:l.length<=5000)(H:List az)(T:au)(tg:Tag) :
  ar prog 113 [.sl l.length (ints l) tg,.int .i64 t] H T (λr H' T'=>H'=H/\T'=T/\∃i:Int,r=.df [.int .i64 i,.bool (decide (t∈l))]):=by
 refine ar.cg ?_;refine ah 10 [] Tryz.ntmps113 Tryz.func113 rfl (λ_ _=>Tryz.call113 _ _) (by simp) (λHO=>?_);apply ae;intro K Z;simp(disch:=omega);apply Z;apply ae;intro K Z;simp(disch:=omega);apply Z;apply ae;intro K Z;simp(disch:=omega);apply Z;refine af λK1 aO=>?_;apply aj;refine aI (X:=Nat×Nat) (λx=>⟨[(0,.sl l.length (ints l) .none),(1,.int .i64 t),(6,.int .i64 (l.length:Nat)),(7,.int .i64 (x.1:Nat)),(8,.int .i64 (x.2:Nat))],H,T⟩)
  (λx=>x.1<=x.2/\x.2<=l.length/\(∀j,j<x.1->l.getD j 0<t)/\(∀j,x.2<=j->j<l.length->t<=l.getD j 0)) (λx=>x.2-x.1) (0,l.length) ?_ ?_ ?_
 ·exact⟨ahu _,ahj _,λj hj=>absurd hj (ahO _),λj h1 h2=>absurd h2 (Nat.not_lt.2 h1)⟩
 ·refine ag [] [] ?_ ?_ ?_ ?_ HO ?_
  all_goals simp
 ·rintro⟨lo,hi⟩ ⟨h1,h2,h3,h4⟩;simp only at h1 h2 h3 h4;refine af λK2 bc=>?_;apply ae;intro K Z;simp(disch:=omega);apply Z;refine aT rfl (λhk=>?_) (λhk=>?_)
  ·simp  at hk;have hm:(lo+hi) / 2<l.length:=by omega
   have Yw:=bI (xs:=l) (k:=(lo+hi) / 2) hm;apply aq;simp(disch:=omega) ;apply bc;clear bc;apply aj;apply ae;intro K Z;simp(disch:=omega);apply Z;rw[show ((lo:Int)+hi) / 2=(((lo+hi) / 2:Nat):Int) by omega];have hge:lo<=(lo+hi) / 2:=by omega
   have hlt:(lo+hi) / 2<hi:=by omega
   generalize (lo+hi) / 2=m at *
   by_cases hc:l.getD m 0<t
   ·have c:=JD (l.getD m 0) t H T;rw[ahm hc] at c;refine ae λK hK=>?_;simp(disch:=omega)[Yw];refine ak (c) ?_;simp(disch:=omega) ;apply hK;apply aG rfl;refine aB λK hK=>?_;simp(disch:=omega) ;apply hK;refine⟨(m+1,hi),⟨by show m+1<=hi;omega,h2,λj hj=>?_,h4⟩,by show hi-(m+1)<hi-lo;omega,?_⟩
    ·rcases ahr j m with h5|h5
     ·have:=ql hs h5 hm;omega
     ·have:j=m:=by simp only at hj;omega
      subst this;exact hc
    ·refine ag [] [] ?_ ?_ ?_ ?_ HO ?_
     all_goals simp
   ·have c:=JD (l.getD m 0) t H T;rw[ahn hc] at c;refine ae λK hK=>?_;simp(disch:=omega)[Yw];refine ak (c) ?_;simp(disch:=omega) ;apply hK;apply aD rfl;refine aB λK hK=>?_;simp(disch:=omega) ;apply hK;refine⟨(lo,m),⟨hge,by show m<=l.length;omega,h3,λj hj hj2=>?_⟩,by show m-lo<hi-lo;omega,?_⟩
    ·rcases ahr m j with h5|h5
     ·have:=ql hs h5 hj2;omega
     ·have:j=m:=by simp only at hj;omega
      subst this;omega
    ·refine ag [] [] ?_ ?_ ?_ ?_ HO ?_
     all_goals simp
  ·simp  at hk;have e:hi=lo:=by omega
   subst e;apply aF;simp(disch:=omega) ;apply aO;clear aO;have cn:=λz=>Qq z H T
   by_cases hn:hi<l.length
   ·have Yw:=bI (xs:=l) (k:=hi) hn
    by_cases he:l.getD hi 0=t
    ·have fS:t∈l:=by rw[<-he];exact vS l hi 0 hn
     have b:(l.getD hi 0==t)=true:=by simpa using he
     refine ae λK hK=>?_;simp(disch:=omega)[Yw,hn,b,he];apply hK;apply ay;simp(disch:=omega) ;simp[fS]
    ·have fS:¬t∈l:=λhm=>by
      obtain⟨j,hj,e⟩:=ml 0 hm;rcases aiM j hi with h5|h5|h5
      ·have:=h3 j h5;omega
      ·subst h5;exact he e
      ·have:=ql hs h5 hj;have:=h4 hi (ahj _) hn;omega
     have b:(l.getD hi 0==t)=false:=by simpa using he
     refine ae λK hK=>?_;simp(disch:=omega)[Yw,hn,b,he];refine ak (cn _) ?_;simp(disch:=omega) ;apply hK;apply ay;simp(disch:=omega) ;simp[fS]
   ·have fS:¬t∈l:=λhm=>by
     obtain⟨j,hj,e⟩:=ml 0 hm;have:=h3 j (by omega);omega
    refine ae λK hK=>?_;simp(disch:=omega)[hn];apply hK;apply ay;simp(disch:=omega) ;simp[fS]
end Go.Proofs.YtoejlmpbebjemaaGreat
