/- Posting lists of layer 38 as cells, and their copies. The documents of posting lists of layer 38. Valid of layer 38. Valid of layer 38: the whole. Valid, Count and Few of the reference of layer 38, and Count of the program. Same of the reference of layer 38, and same of the law. Near of layer 38: what it asks of two positions; whether some number of a list passes a test; searching among ascending numbers. Searching among ascending numbers.
  Conditions: lengths below 1000 or 5000, as each theorem says. -/
import Derived.Test.YtneohapkboaplaaGreatPA
set_option linter.all false
set_option maxRecDepth 100000
set_option maxHeartbeats 2000000
open Nat (zero_le lt_or_ge not_lt_zero le_trans)
open List (getD_eq_getElem?_getD getElem?_eq_getElem getElem_mem)
namespace Go.Proofs.YtneohapkboaplaaGreat
open Go Go.Am dc
@[simp] theorem Hy (v w:AV):gj [v,w] 2=[v,w]:=rfl
def bp (l:List (Int×List Int)):List AV:=l.flatMap fun p=>[.int .i64 p.1,.sl p.2.length (ints p.2) .none]
theorem qv:bp []=[]:=rfl
theorem aS (l:List (Int×List Int)):(bp l).length=l.length*2:=by
 induction l with
 |nil=>rfl
 |cons p l ih=>simp only[bp,List.flatMap_cons,List.length_append,List.length_cons,List.length_nil] at ih ⊢;omega
@[simp] theorem WC (n t:Nat) (l:List (Int×List Int)):aL n t (bp l):=by
 intro v hv;obtain⟨p,_,hv⟩:=List.mem_flatMap.1 hv;simp at hv;rcases hv with rfl|rfl<;>simp
theorem om (p:Int×List Int)(l:List (Int×List Int)):bp (p::l)=.int .i64 p.1::.sl p.2.length (ints p.2) .none::bp l:=by simp[bp]
theorem jO (l:List (Int×List Int))(d:Int)(at_:List Int):bp l++[.int .i64 d,.sl at_.length (ints at_) .none]=bp (l++[(d,at_)]):=by simp[bp]
theorem gq:∀(l:List (Int×List Int)) (i:Nat),i<l.length→(bp l).getD (i*2) .top=.int .i64 (l.getD i (0,[])).1∧(bp l).getD (i*2+1) .top=.sl (l.getD i (0,[])).2.length (ints (l.getD i (0,[])).2) .none:=by
 intro l
 induction l with
 |nil=>intro i h;simp at h
 |cons p l ih=>
  intro i h
  cases i with
  |zero=>rw[om];exact⟨rfl,rfl⟩
  |succ i=>
   have:=ih i (by simpa using h);rw[om,show (i+1)*2=i*2+1+1 by omega];exact this
theorem iU:∀(l:List (Int×List Int)) (i:Nat),i<l.length→((bp l).drop (i*2)).take 2=[.int .i64 (l.getD i (0,[])).1,.sl (l.getD i (0,[])).2.length (ints (l.getD i (0,[])).2) .none]:=by
 intro l
 induction l with
 |nil=>intro i h;simp at h
 |cons p l ih=>
  intro i h
  cases i with
  |zero=>rw[om];rfl
  |succ i=>
   have:=ih i (by simpa using h);rw[om,show (i+1)*2=i*2+1+1 by omega];exact this
theorem wE (l:List (Int×List Int))(k:Nat)(h:k<l.length):bp (l.take k)++[.int .i64 (l.getD k (0,[])).1,.sl (l.getD k (0,[])).2.length (ints (l.getD k (0,[])).2) .none]=bp (l.take (k+1)):=by
 rw[jO,show ((l.getD k (0,[])).1,(l.getD k (0,[])).2)=l.getD k (0,[]) from rfl]
 congr 1
 rw[List.take_succ_eq_append_getElem h];simp[h]
attribute [-simp] getD_eq_getElem?_getD in
theorem wi (l:List (Int×List Int))(hl:l.length≤5000)(H:List aG)(T:ay)(tg:Tag):al Tryz.prog 29 [.sl l.length (bp l) tg] H T (Is (.sl l.length (bp l) .none) H T):=by
 refine al.cg ?_;refine al.dS ?_ (by simp);refine aj 5 [] Tryz.ntmps29 Tryz.func29 rfl (fun _ _=>Tryz.call29 _ _) (by simp) (fun HO=>?_);apply ae;intro K h;simp(disch:=omega);apply h;clear h K;apply ae;intro K h;simp(disch:=omega);apply h;clear h K;refine af fun K1 aO=>?_;apply ae;intro K h;simp(disch:=omega);apply h;clear h K;apply ai;refine jm 3 0 2 [] (by omega) (by simp) ?_;refine aK (X:=Nat) (fun k=>⟨[(0,.sl l.length (bp l) .none),(3,.sl k (bp (l.take k)) (.own T.length)),(4,.int .i64 (k:Nat))],H,T++[(k*2,2)]⟩) (fun k=>k≤l.length) (fun k=>l.length-k) 0 ?_ ?_ ?_
 ·exact zero_le _
 ·refine ag [] [] ?_ ?_ ?_ ?_ (HO.df (by simp)) ?_
  all_goals simp[qv]
 ·intro k hk;refine af fun K2 aY=>?_;apply ae;intro K h;simp(disch:=omega);apply h;clear h K;refine aP rfl (fun da=>?_) (fun da=>?_)
  ·simp  at da;have bY:=iU l k da;have lV:(bp (l.take k)).length=k*2:=by rw[aS,List.length_take];omega
   apply ak;simp(disch:=omega) ;apply aY;clear aY;refine af fun K3 bA=>?_;apply ai;refine ar fun K hK=>?_;simp(disch:=omega)[bY,aS,lV,wE l k da];apply hK;clear hK K;apply bA;clear bA;refine ar fun K hK=>?_;simp(disch:=omega) ;apply hK;clear hK K;refine⟨k+1,by show k+1≤_;omega,by show l.length-(k+1)<l.length-k;omega,?_⟩;refine ag [] [] ?_ ?_ ?_ ?_ (HO.df (by simp)) ?_
   all_goals simp
  ·simp at da;have:k=l.length:=by omega
   subst this;apply aD;simp(disch:=omega) ;apply aO;clear aO;apply ae;intro K h;simp(disch:=omega);apply h;clear h K;apply an;simp(disch:=omega) 
attribute [-simp] getD_eq_getElem?_getD in
theorem M7 (l:List (Int×List Int))(hl:l.length≤5000)(H:List aG)(T:ay)(tg:Tag):al Tryz.prog 78 [.sl l.length (bp l) tg] H T (Is (.sl l.length (bp l) .none) H T):=by
 refine al.cg ?_;refine al.dS ?_ (by simp);refine aj 5 [] Tryz.ntmps78 Tryz.func78 rfl (fun _ _=>Tryz.call78 _ _) (by simp) (fun HO=>?_);apply ae;intro K h;simp(disch:=omega);apply h;clear h K;apply ae;intro K h;simp(disch:=omega);apply h;clear h K;refine af fun K1 aO=>?_;apply ae;intro K h;simp(disch:=omega);apply h;clear h K;apply ai;refine jm 3 0 2 [] (by omega) (by simp) ?_;refine aK (X:=Nat) (fun k=>⟨[(0,.sl l.length (bp l) .none),(3,.sl k (bp (l.take k)) (.own T.length)),(4,.int .i64 (k:Nat))],H,T++[(k*2,2)]⟩) (fun k=>k≤l.length) (fun k=>l.length-k) 0 ?_ ?_ ?_
 ·exact zero_le _
 ·refine ag [] [] ?_ ?_ ?_ ?_ (HO.df (by simp)) ?_
  all_goals simp[qv]
 ·intro k hk;refine af fun K2 aY=>?_;apply ae;intro K h;simp(disch:=omega);apply h;clear h K;refine aP rfl (fun da=>?_) (fun da=>?_)
  ·simp  at da;have bY:=iU l k da;have lV:(bp (l.take k)).length=k*2:=by rw[aS,List.length_take];omega
   apply ak;simp(disch:=omega) ;apply aY;clear aY;refine af fun K3 bA=>?_;apply ai;refine ar fun K hK=>?_;simp(disch:=omega)[bY,aS,lV,wE l k da];apply hK;clear hK K;apply bA;clear bA;refine ar fun K hK=>?_;simp(disch:=omega) ;apply hK;clear hK K;refine⟨k+1,by show k+1≤_;omega,by show l.length-(k+1)<l.length-k;omega,?_⟩;refine ag [] [] ?_ ?_ ?_ ?_ (HO.df (by simp)) ?_
   all_goals simp
  ·simp at da;have:k=l.length:=by omega
   subst this;apply aD;simp(disch:=omega) ;apply aO;clear aO;apply ae;intro K h;simp(disch:=omega);apply h;clear h K;apply an;simp(disch:=omega) 
def aw (l:List (Int×List Int)):List Int:=l.map (·.1)
theorem w7 (l:List (Int×List Int))(k:Nat)(h:k<l.length):ints (aw (l.take k))++[.int .i64 (l.getD k (0,[])).1]=ints (aw (l.take (k+1))):=by
 have e:l.take (k+1)=l.take k++[l.getD k (0,[])]:=by
  rw[List.take_succ_eq_append_getElem h];simp[h]
 rw[e,cN];simp[aw]
attribute [-simp] getD_eq_getElem?_getD in
theorem Ar (l:List (Int×List Int))(hl:l.length≤5000)(H:List aG)(T:ay)(tg:Tag):al Tryz.prog 158 [.sl l.length (bp l) tg] H T (Is (.sl l.length (ints (aw l)) .none) H T):=by
 refine al.cg ?_;refine al.dS ?_ (by simp);refine aj 5 [] Tryz.ntmps158 Tryz.func158 rfl (fun _ _=>Tryz.call158 _ _) (by simp) (fun HO=>?_);apply ae;intro K h;simp(disch:=omega);apply h;clear h K;apply ae;intro K h;simp(disch:=omega);apply h;clear h K;refine af fun K1 aO=>?_;apply ae;intro K h;simp(disch:=omega);apply h;clear h K;apply ai;refine jm 3 0 1 [] (by omega) (by simp) ?_;refine aK (X:=Nat) (fun k=>⟨[(0,.sl l.length (bp l) .none),(3,.sl k (ints (aw (l.take k))) (.own T.length)),(4,.int .i64 (k:Nat))],H,T++[(k,1)]⟩) (fun k=>k≤l.length) (fun k=>l.length-k) 0 ?_ ?_ ?_
 ·exact zero_le _
 ·refine ag [] [] ?_ ?_ ?_ ?_ (HO.df (by simp)) ?_
  all_goals simp[aw,ints]
 ·intro k hk;refine af fun K2 aY=>?_;apply ae;intro K h;simp(disch:=omega);apply h;clear h K;refine aP rfl (fun da=>?_) (fun da=>?_)
  ·simp  at da;have gR:=(gq l k da).1;have lV:(ints (aw (l.take k))).length=k:=by simp[aw,ints];omega
   have kS:=w7 l k da;generalize ints (aw (l.take k))=out at *;apply ak;simp(disch:=omega) ;apply aY;clear aY;refine af fun K3 bA=>?_;apply ai;refine ar fun K hK=>?_;simp(disch:=omega)[gR,aS,lV,kS];apply hK;clear hK K;apply bA;clear bA;refine ar fun K hK=>?_;simp(disch:=omega) ;apply hK;clear hK K;refine⟨k+1,by show k+1≤_;omega,by show l.length-(k+1)<l.length-k;omega,?_⟩;refine ag [] [] ?_ ?_ ?_ ?_ (HO.df (by simp)) ?_
   all_goals simp
  ·simp at da;have:k=l.length:=by omega
   subst this;apply aD;simp(disch:=omega) ;apply aO;clear aO;apply ae;intro K h;simp(disch:=omega);apply h;clear h K;apply an;simp(disch:=omega) 
attribute [-simp] getD_eq_getElem?_getD in
theorem qI (l:List (Int×List Int))(hl:l.length≤5000)(H:List aG)(T:ay)(tg:Tag):al Tryz.prog 149 [.sl l.length (bp l) tg] H T (Is (.sl l.length (ints (aw l)) .none) H T):=by
 refine al.cg ?_;refine al.dS ?_ (by simp);refine aj 12 [] Tryz.ntmps149 Tryz.func149 rfl (fun _ _=>Tryz.call149 _ _) (by simp) (fun HO=>?_);apply ae;intro K h;simp(disch:=omega);apply h;clear h K;apply ae;intro K h;simp(disch:=omega);apply h;clear h K;refine af fun K1 aO=>?_;apply ae;intro K h;simp(disch:=omega);apply h;clear h K;apply ai;refine aK (X:=Nat) (fun k=>⟨[(3,.sl k (ints (aw (l.take k))) (.own T.length)),(9,.sl l.length (bp l) .none),(10,.int .i64 (l.length:Nat)),(11,.int .i64 (k:Nat))],H,T++[(k,1)]⟩) (fun k=>k≤l.length) (fun k=>l.length-k) 0 ?_ ?_ ?_
 ·exact zero_le _
 ·refine ag [] [] ?_ ?_ ?_ ?_ (HO.df (by simp)) ?_
  all_goals simp[aw,ints]
 ·intro k hk;apply ae;intro K h;simp(disch:=omega);apply h;clear h K;refine af fun K2 aY=>?_;refine aP rfl (fun da=>?_) (fun da=>?_)
  ·simp  at da;have bY:=iU l k da;have lV:(ints (aw (l.take k))).length=k:=by simp[aw,ints];omega
   have kS:=w7 l k da;generalize ints (aw (l.take k))=out at *;apply ak;simp(disch:=omega) ;apply aY;clear aY;refine af fun K3 bA=>?_;apply ai;refine ae fun K hK=>?_;simp(disch:=omega)[bY,aS];apply hK;clear hK K;refine ar fun K hK=>?_;simp(disch:=omega)[lV,kS];apply hK;clear hK K;apply bA;clear bA;refine ar fun K hK=>?_;simp(disch:=omega) ;apply hK;clear hK K;refine⟨k+1,by show k+1≤_;omega,by show l.length-(k+1)<l.length-k;omega,?_⟩;refine ag [.cells [.int .i64 (l.getD k (0,[])).1,.sl (l.getD k (0,[])).2.length (ints (l.getD k (0,[])).2) .none]] [] ?_ ?_ ?_ ?_ (HO.df (by simp)) ?_
   all_goals simp
  ·simp at da;have:k=l.length:=by omega
   subst this;apply aD;simp(disch:=omega) ;apply aO;clear aO;apply ae;intro K h;simp(disch:=omega);apply h;clear h K;apply an;simp(disch:=omega) 
def gA (p:Int×List Int):Bool:=decide (p.2.length=0)||!jd p.2 0 1000000
def bc (l:List (Int×List Int)):Bool:=jd (aw l) 1 1000000000&&!l.any gA
attribute [-simp] getD_eq_getElem?_getD in
theorem FW (p:Int×List Int)(hp:p.2.length≤maxLen)(H:List aG)(T:ay):al Tryz.prog 148 [.agg [.int .i64 p.1,.sl p.2.length (ints p.2) .none]] H T (Is (.bool (gA p)) H T):=by
 refine al.dS ?_ (by simp);have c:=Jf p.2 0 1000000 hp (H++[.cells [.int .i64 p.1,.sl p.2.length (ints p.2) .none]]) T .none;refine aj 3 [] Tryz.ntmps148 Tryz.func148 rfl (fun _ _=>Tryz.call148 _ _) (by simp) (fun HO=>?_);apply ae;intro K h;simp(disch:=omega);apply h;clear h K
 by_cases h0:p.2.length=0
 ·have b:((p.2.length:Int)==0)=true:=by rw[h0];rfl
  have h1:(p.2.length:Int)=0:=by omega
  have h2:p.2=[]:=List.eq_nil_of_length_eq_zero h0;refine ae fun K hK=>?_;simp(disch:=omega)[b,h1,h2];apply hK;clear hK K;apply an;simp(disch:=omega) ;simp[gA,h0]
 ·have b:((p.2.length:Int)==0)=false:=by rw[beq_eq_false_iff_ne];omega
  have h2:¬p.2=[]:=fun e=>h0 (by rw[e];rfl);refine ae fun K hK=>?_;simp(disch:=omega)[b,h2];refine ah (c) ?_;simp(disch:=omega) ;apply hK;clear hK K;apply an;simp(disch:=omega) ;simp[gA,h2]
attribute [-simp] getD_eq_getElem?_getD in
theorem Ko (l:List (Int×List Int))(hl:l.length≤5000)(hp:∀p∈l,p.2.length≤maxLen)(H:List aG)(T:ay) :
  al Tryz.prog 197 [.sl l.length (bp l) .none,.fn 148 [] []] H T (fun r H' T'=>H'=H∧T'=T∧∃v:Int,r=.int .i64 v∧decide (0≤v)=l.any gA):=by
 generalize hq:l.any gA=q;refine aj 9 [] Tryz.ntmps197 Tryz.func197 rfl (fun _ _=>Tryz.call197 _ _) (by simp) (fun HO=>?_);apply ae;intro K h;simp(disch:=omega);apply h;clear h K;refine af fun K1 aO=>?_;apply ae;intro K h;simp(disch:=omega);apply h;clear h K;apply ai;refine aK (X:=Nat) (fun k=>⟨[(0,.sl l.length (bp l) .none),(1,.fn 148 [] []),(7,.int .i64 (l.length:Nat)),(8,.int .i64 (k:Nat))],H,T⟩) (fun k=>k≤l.length∧∀j,j<k→gA (l.getD j (0,[]))=false) (fun k=>l.length-k) 0 ?_ ?_ ?_
 ·exact⟨zero_le _,fun j hj=>absurd hj (not_lt_zero _)⟩
 ·refine ag [] [] ?_ ?_ ?_ ?_ HO ?_
  all_goals simp
 ·rintro k ⟨h1,h2⟩;apply ae;intro K h;simp(disch:=omega);apply h;clear h K;refine af fun K2 aY=>?_;refine aP rfl (fun hk=>?_) (fun hk=>?_)
  ·simp  at hk;have bY:=iU l k hk;have hm:l.getD k (0,[])∈l:=by
    rw[getD_eq_getElem?_getD,getElem?_eq_getElem hk];exact getElem_mem hk
   have c:=FW (l.getD k (0,[])) (hp _ hm) H T;apply ak;simp(disch:=omega) ;apply aY;clear aY;refine af fun K3 bA=>?_;apply ai;apply ae;intro K h;simp(disch:=omega);apply h;clear h K
   cases hb:gA (l.getD k (0,[])) with
   |true=>
    rw[hb] at c;refine ae fun K hK=>?_;simp(disch:=omega)[bY,aS];refine ah (c) ?_;simp(disch:=omega) ;apply hK;clear hK K;apply aH rfl;apply ae;intro K h;simp(disch:=omega);apply h;clear h K;apply an;simp(disch:=omega) ;have:l.any gA=true:=List.any_eq_true.2 ⟨_,hm,hb⟩;rw[hq] at this;simp[this]
   |false=>
    rw[hb] at c;refine ae fun K hK=>?_;simp(disch:=omega)[bY,aS];refine ah (c) ?_;simp(disch:=omega) ;apply hK;clear hK K;apply aC rfl;apply ak;simp(disch:=omega) ;apply bA;clear bA;refine ar fun K hK=>?_;simp(disch:=omega) ;apply hK;clear hK K;refine⟨k+1,⟨by show k+1≤_;omega,fun j hj=>?_⟩,by show l.length-(k+1)<l.length-k;omega,?_⟩
    ·rcases lt_or_ge j k with h3|h3
     ·exact h2 j h3
     ·have:j=k:=by omega
      subst this;exact hb
    ·refine ag [] [] ?_ ?_ ?_ ?_ HO ?_
     all_goals simp
  ·simp  at hk;have hn:l.any gA=false:=by
    rw[List.any_eq_false];intro p ZL;obtain⟨j,hj,e⟩:=List.mem_iff_getElem.1 ZL;have:=h2 j (by omega);rw[getD_eq_getElem?_getD,getElem?_eq_getElem hj] at this;simp only[Option.getD_some,e] at this;simp[this]
   apply aD;simp(disch:=omega) ;apply aO;clear aO;apply ae;intro K h;simp(disch:=omega);apply h;clear h K;apply an;simp(disch:=omega) ;rw[hq] at hn;simp[hn]
attribute [-simp] getD_eq_getElem?_getD in
theorem Bu (l:List (Int×List Int))(hl:l.length≤5000)(hp:∀p∈l,p.2.length≤maxLen)(H:List aG)(T:ay) :
  al Tryz.prog 150 [.sl l.length (bp l) .none,.fn 148 [] []] H T (Is (.bool (l.any gA)) H T):=by
 have c:=Ko l hl hp H T;generalize l.any gA=q at *;refine aj 5 [] Tryz.ntmps150 Tryz.func150 rfl (fun _ _=>Tryz.call150 _ _) (by simp) (fun HO=>?_);apply ae;intro K h;simp(disch:=omega);apply h;clear h K;refine ae fun K hK=>?_;simp(disch:=omega) ;refine⟨_,c,?_⟩;rintro r H' T' ⟨rfl,rfl,v,rfl,hv⟩;simp(disch:=omega)[hv];apply hK;clear hK K;apply an;simp(disch:=omega) ;exact⟨rfl,rfl,rfl⟩
attribute [-simp] getD_eq_getElem?_getD in
theorem lD (l:List (Int×List Int))(hl:l.length≤5000)(hp:∀p∈l,p.2.length≤maxLen)(H:List aG)(T:ay)(tg:Tag) :
  al Tryz.prog 73 [.sl l.length (bp l) tg] H T (Is (.bool (bc l)) H T):=by
 refine al.cg ?_;have c1:=qI l hl H T .none;have n9:(aw l).length=l.length:=by simp[aw]
 have c2:=jI (aw l) (by rw[n9];exact le_trans hl (by decide)) H T .none;rw[n9] at c2;have c3:=Bu l hl hp H T;unfold bc;generalize l.any gA=q at *;refine aj 4 [] Tryz.ntmps73 Tryz.func73 rfl (fun _ _=>Tryz.call73 _ _) (by simp) (fun HO=>?_);apply ae;intro K h;simp(disch:=omega);apply h;clear h K;apply ae;intro K h;simp(disch:=omega);apply h;clear h K
 cases hv:jd (aw l) 1 1000000000 with
 |false=>
  rw[hv] at c2;refine ae fun K hK=>?_;simp(disch:=omega) ;refine ah (c1) ?_;simp(disch:=omega) ;refine ah (c2) ?_;simp(disch:=omega) ;apply hK;clear hK K;apply an;simp(disch:=omega) ;exact⟨rfl,rfl,rfl⟩
 |true=>
  rw[hv] at c2;refine ae fun K hK=>?_;simp(disch:=omega) ;refine ah (c1) ?_;simp(disch:=omega) ;refine ah (c2) ?_;simp(disch:=omega) ;refine ah (c3) ?_;simp(disch:=omega) ;apply hK;clear hK K;apply an;simp(disch:=omega) ;exact⟨rfl,rfl,rfl⟩
theorem oN {α:Type}(l:List α)(k:Nat)(d:α)(h:k<l.length):l.getD k d∈l:=by
 rw[getD_eq_getElem?_getD,getElem?_eq_getElem h];exact getElem_mem h
theorem ic {α:Type}{l:List α}{x:α}(d:α)(h:x∈l):∃k,k<l.length∧l.getD k d=x:=by
 obtain⟨j,hj,e⟩:=List.mem_iff_getElem.1 h;refine⟨j,hj,?_⟩;rw[getD_eq_getElem?_getD,getElem?_eq_getElem hj];exact e
theorem CK {α:Type}(l:List α)(k:Nat)(d:α)(h:k<l.length):l.take (k+1)=l.take k++[l.getD k d]:=by
 rw[List.take_succ_eq_append_getElem h];simp[h]
theorem CH {l:List (Int×List Int)}{k:Nat}(hk:k<l.length)(h:gA (l.getD k (0,[]))=true):bc l=false:=by
 have:l.any gA=true:=List.any_eq_true.2 ⟨_,oN l k _ hk,h⟩;simp[bc,this]
theorem AX {l:List (Int×List Int)}(h:∀j,j<l.length→gA (l.getD j (0,[]))=false):bc l=jd (aw l) 1 1000000000:=by
 have:l.any gA=false:=by
  rw[List.any_eq_false];intro p hp;obtain⟨j,hj,e⟩:=ic (0,[]) hp;rw[←e,h j hj];simp
 simp[bc,this]
attribute [-simp] getD_eq_getElem?_getD in
theorem oe (l:List (Int×List Int))(hl:l.length≤5000)(hp:∀p∈l,p.2.length≤maxLen)(H:List aG)(T:ay)(tg:Tag) :
  al Tryz.prog 86 [.sl l.length (bp l) tg] H T (Is (.bool (bc l)) H T):=by
 refine al.cg ?_;have n9:(aw l).length=l.length:=by simp[aw]
 have c1:=Ar l hl H T .none;have c2:=fq (aw l) (by rw[n9];exact le_trans hl (by decide)) H T .none;rw[n9] at c2;generalize hq:bc l=q;refine aj 6 [] Tryz.ntmps86 Tryz.func86 rfl (fun _ _=>Tryz.call86 _ _) (by simp) (fun HO=>?_);apply ae;intro K h;simp(disch:=omega);apply h;clear h K;refine af fun K1 aO=>?_;apply ae;intro K h;simp(disch:=omega);apply h;clear h K;apply ai;refine aK (X:=Nat) (fun k=>⟨[(0,.sl l.length (bp l) .none),(3,.int .i64 (k:Nat))],H,T⟩) (fun k=>k≤l.length∧∀j,j<k→gA (l.getD j (0,[]))=false) (fun k=>l.length-k) 0 ?_ ?_ ?_
 ·exact⟨zero_le _,fun j hj=>absurd hj (not_lt_zero _)⟩
 ·refine ag [] [] ?_ ?_ ?_ ?_ HO ?_
  all_goals simp
 ·rintro k ⟨h1,h2⟩;refine af fun K2 aY=>?_;apply ae;intro K h;simp(disch:=omega);apply h;clear h K;refine aP rfl (fun hk=>?_) (fun hk=>?_)
  ·simp  at hk;have gR:=(gq l k hk).2;have c:=EN (l.getD k (0,[])).2 0 1000000 (hp _ (oN l k _ hk)) H T .none;have qR:gA (l.getD k (0,[]))=true→q=false:=fun h=>by rw[←hq];exact CH hk h
   have fW:gA (l.getD k (0,[]))=false→∀j,j<k+1→gA (l.getD j (0,[]))=false:=fun h j hj=>by
    rcases lt_or_ge j k with h3|h3
    ·exact h2 j h3
    ·have:j=k:=by omega
     subst this;exact h
   generalize l.getD k (0,[])=p at gR c qR fW;apply ak;simp(disch:=omega) ;apply aY;clear aY;refine af fun K3 bA=>?_;apply ai
   by_cases h0:p.2=[]
   ·have b:((p.2.length:Int)==0)=true:=by rw[h0];rfl
    refine ae fun K hK=>?_;simp(disch:=omega)[gR,aS,b,h0];apply hK;clear hK K;apply aH rfl;apply ae;intro K h;simp(disch:=omega);apply h;clear h K;apply an;simp(disch:=omega) ;rw[qR (by simp[gA,h0])];exact⟨rfl,rfl,rfl⟩
   ·have b:((p.2.length:Int)==0)=false:=by rw[beq_eq_false_iff_ne];intro e;exact h0 (List.eq_nil_of_length_eq_zero (by omega))
    cases ha:jd p.2 0 1000000
    ·rw[ha] at c;refine ae fun K hK=>?_;simp(disch:=omega)[gR,aS,b,h0];refine ah (c) ?_;simp(disch:=omega) ;apply hK;clear hK K;apply aH rfl;apply ae;intro K h;simp(disch:=omega);apply h;clear h K;apply an;simp(disch:=omega) ;rw[qR (by simp[gA,ha])];exact⟨rfl,rfl,rfl⟩
    ·rw[ha] at c;refine ae fun K hK=>?_;simp(disch:=omega)[gR,aS,b,h0];refine ah (c) ?_;simp(disch:=omega) ;apply hK;clear hK K;apply aC rfl;apply ak;simp(disch:=omega) ;apply bA;clear bA;refine ar fun K hK=>?_;simp(disch:=omega) ;apply hK;clear hK K;refine⟨k+1,⟨by show k+1≤_;omega,fW (by simp[gA,ha,h0])⟩,by show l.length-(k+1)<l.length-k;omega,?_⟩;refine ag [] [] ?_ ?_ ?_ ?_ HO ?_
     all_goals simp
  ·simp  at hk;have hn:=AX (l:=l) (fun j hj=>h2 j (by omega));rw[←hn,hq] at c2;apply aD;simp(disch:=omega) ;apply aO;clear aO;refine ae fun K hK=>?_;simp(disch:=omega) ;refine ah (c1) ?_;simp(disch:=omega) ;refine ah (c2) ?_;simp(disch:=omega) ;apply hK;clear hK K;apply an;simp(disch:=omega) ;exact⟨rfl,rfl,rfl⟩
attribute [-simp] getD_eq_getElem?_getD in
theorem QE (l:List (Int×List Int))(hl:l.length≤maxLen)(hp:∀p∈l,p.2.length≤maxLen)(H:List aG)(T:ay)(tg:Tag) :
  al Tryz.prog 77 [.sl l.length (bp l) tg] H T (Is (.bool (decide (l.length≤30∧∀p∈l,p.2.length≤30))) H T):=by
 refine al.cg ?_;have ik:maxLen≤9223372036854775807:=by decide
 have oM:=le_trans hl ik;generalize hq:decide (l.length≤30∧∀p∈l,p.2.length≤30)=q;refine aj 6 [] Tryz.ntmps77 Tryz.func77 rfl (fun _ _=>Tryz.call77 _ _) (by simp) (fun HO=>?_);apply ae;intro K h;simp(disch:=omega);apply h;clear h K;refine af fun K1 aO=>?_;apply ae;intro K h;simp(disch:=omega);apply h;clear h K;apply ai;refine aK (X:=Nat) (fun k=>⟨[(0,.sl l.length (bp l) .none),(3,.int .i64 (k:Nat))],H,T⟩) (fun k=>k≤l.length∧∀j,j<k→(l.getD j (0,[])).2.length≤30) (fun k=>l.length-k) 0 ?_ ?_ ?_
 ·exact⟨zero_le _,fun j hj=>absurd hj (not_lt_zero _)⟩
 ·refine ag [] [] ?_ ?_ ?_ ?_ HO ?_
  all_goals simp
 ·rintro k ⟨h1,h2⟩;refine af fun K2 aY=>?_;apply ae;intro K h;simp(disch:=omega);apply h;clear h K;refine aP rfl (fun hk=>?_) (fun hk=>?_)
  ·simp  at hk;have gR:=(gq l k hk).2;have RZ:=le_trans (hp _ (oN l k (0,[]) hk)) ik;have qR:¬(l.getD k (0,[])).2.length≤30→q=false:=fun h=>by rw[←hq];exact decide_eq_false (fun hh=>h (hh.2 _ (oN l k _ hk)))
   have fW:(l.getD k (0,[])).2.length≤30→∀j,j<k+1→(l.getD j (0,[])).2.length≤30:=fun h j hj=>by
    rcases lt_or_ge j k with h3|h3
    ·exact h2 j h3
    ·have:j=k:=by omega
     subst this;exact h
   generalize l.getD k (0,[])=p at gR qR fW RZ;apply ak;simp(disch:=omega) ;apply aY;clear aY;refine af fun K3 bA=>?_;apply ai
   by_cases h0:p.2.length≤30
   ·have b:decide ((30:Int)<(p.2.length:Int))=false:=by simp;omega
    have b2:¬30<p.2.length:=by omega
    refine ae fun K hK=>?_;simp(disch:=omega)[gR,aS,b,b2];apply hK;clear hK K;apply aC rfl;apply ak;simp(disch:=omega) ;apply bA;clear bA;refine ar fun K hK=>?_;simp(disch:=omega) ;apply hK;clear hK K;refine⟨k+1,⟨by show k+1≤_;omega,fW h0⟩,by show l.length-(k+1)<l.length-k;omega,?_⟩;refine ag [] [] ?_ ?_ ?_ ?_ HO ?_
    all_goals simp
   ·have b:decide ((30:Int)<(p.2.length:Int))=true:=by simp;omega
    have b2:30<p.2.length:=by omega
    refine ae fun K hK=>?_;simp(disch:=omega)[gR,aS,b,b2];apply hK;clear hK K;apply aH rfl;apply ae;intro K h;simp(disch:=omega);apply h;clear h K;apply an;simp(disch:=omega) ;rw[qR h0];exact⟨rfl,rfl,rfl⟩
  ·simp  at hk;have fy:∀p∈l,p.2.length≤30:=fun p hp=>by
    obtain⟨j,hj,e⟩:=ic (0,[]) hp;rw[←e];exact h2 j (by omega)
   have hb:decide ((l.length:Int)≤30)=q:=by
    rw[←hq];apply decide_eq_decide.2
    constructor
    ·intro h;exact⟨by omega,fy⟩
    ·intro h;omega
   apply aD;simp(disch:=omega) ;apply aO;clear aO;apply ae;intro K h;simp(disch:=omega);apply h;clear h K;apply an;simp(disch:=omega) ;rw[←hb];refine⟨?_,rfl,rfl⟩;simp
attribute [-simp] getD_eq_getElem?_getD in
theorem zC (a b:List (Int×List Int))(ha:a.length≤5000)(hb:b.length≤5000)(LQ:∀p∈a,p.2.length≤maxLen)(LP:∀p∈b,p.2.length≤maxLen)(H:List aG)(T:ay)(ta tb:Tag) :
  al Tryz.prog 79 [.sl a.length (bp a) ta,.sl b.length (bp b) tb] H T (Is (.bool (decide (a=b))) H T):=by
 refine al.cg (al.nF ?_);refine aj 6 [] Tryz.ntmps79 Tryz.func79 rfl (fun _ _=>Tryz.call79 _ _) (by simp) (fun HO=>?_);apply ae;intro K h;simp(disch:=omega);apply h;clear h K;refine af fun K1 aO=>?_;apply ae;intro K h;simp(disch:=omega);apply h;clear h K;refine aP rfl (fun h=>?_) (fun h=>?_)
 ·simp  at h;apply ae;intro K h;simp(disch:=omega);apply h;clear h K;apply an;simp(disch:=omega) ;have:¬a=b:=by intro e;subst e;exact h rfl
  rw[decide_eq_false this];exact⟨rfl,rfl,rfl⟩
 ·simp  at h;have hl:a.length=b.length:=by omega
  apply ak;simp(disch:=omega) ;apply aO;clear aO;refine af fun K1 aO=>?_;apply ae;intro K h;simp(disch:=omega);apply h;clear h K;apply ai;refine aK (X:=Nat) (fun i=>⟨[(0,.sl a.length (bp a) .none),(1,.sl b.length (bp b) .none),(5,.int .i64 (i:Nat))],H,T⟩) (fun i=>i≤a.length∧∀j,j<i→a.getD j (0,[])=b.getD j (0,[])) (fun i=>a.length-i) 0 ?_ ?_ ?_
  ·exact⟨by omega,fun j hj=>by omega⟩
  ·refine ag [] [] ?_ ?_ ?_ ?_ HO ?_
   all_goals simp
  ·rintro i ⟨hi,hj⟩;refine af fun K2 aY=>?_;apply ae;intro K h;simp(disch:=omega);apply h;clear h K;refine aP rfl (fun h=>?_) (fun h=>?_)
   ·simp  at h;have lX:=gq a i h;have BV:=gq b i (by omega);have W2:a.getD i (0,[])∈a:=by
     rw[getD_eq_getElem?_getD,getElem?_eq_getElem h];exact getElem_mem h
    have hmB:b.getD i (0,[])∈b:=by
     rw[getD_eq_getElem?_getD,getElem?_eq_getElem (show i<b.length by omega)];exact getElem_mem _
    have c:=nU (a.getD i (0,[])).2 (b.getD i (0,[])).2 (LQ _ W2) (LP _ hmB) H T .none .none;have dA:a.getD i (0,[])=b.getD i (0,[])→∀j,j<i+1→a.getD j (0,[])=b.getD j (0,[]):=fun he j bK=>by
     rcases lt_or_ge j i with h1|h1
     ·exact hj j h1
     ·have:j=i:=by omega
      subst this;exact he
    have r6:a.getD i (0,[])≠b.getD i (0,[])→¬a=b:=fun h e=>h (by rw[e]);have PW:i<b.length:=by omega
    generalize a.getD i (0,[])=p at lX c dA r6;generalize b.getD i (0,[])=q at BV c dA r6;apply ak;simp(disch:=omega) ;apply aY;clear aY;refine af fun K3 bA=>?_;apply ai
    by_cases he:p.1=q.1
    ·have bb:(p.1!=q.1)=false:=by simp[he]
     cases hs:(p.2==q.2)
     ·rw[hs] at c;refine aM [] [] [] au (by kernel_rfl) (by kernel_rfl) fun K hK=>?_;simp(disch:=omega)[lX.1,lX.2,BV.1,BV.2,aS,he,PW];refine aB (c) rfl ?_;simp(disch:=omega) ;apply hK;clear hK K;apply aH rfl;apply ae;intro K h;simp(disch:=omega);apply h;clear h K;apply an;simp(disch:=omega) ;have:¬a=b:=r6 (fun e=>by rw[e] at hs;simp at hs);rw[decide_eq_false this];exact⟨rfl,rfl,rfl⟩
     ·rw[hs] at c;refine aM [] [] [] au (by kernel_rfl) (by kernel_rfl) fun K hK=>?_;simp(disch:=omega)[lX.1,lX.2,BV.1,BV.2,aS,he,PW];refine aB (c) rfl ?_;simp(disch:=omega) ;apply hK;clear hK K;apply aC rfl;apply ak;simp(disch:=omega) ;apply bA;clear bA;refine ar fun K hK=>?_;simp(disch:=omega) ;apply hK;clear hK K;refine⟨i+1,⟨by omega,dA (Prod.ext he (by simpa using hs))⟩,by omega,?_⟩;refine ag [] [] ?_ ?_ ?_ ?_ HO ?_
      all_goals simp
    ·have sM:(p.1!=q.1)=true:=bne_iff_ne.2 he;refine aM [] [] [] au (by kernel_rfl) (by kernel_rfl) fun K hK=>?_;simp(disch:=omega)[lX.1,lX.2,BV.1,BV.2,aS,sM,PW];apply hK;clear hK K;apply aH rfl;apply ae;intro K h;simp(disch:=omega);apply h;clear h K;apply an;simp(disch:=omega) ;have:¬a=b:=r6 (fun e=>he (by rw[e]));rw[decide_eq_false this];exact⟨rfl,rfl,rfl⟩
   ·simp  at h;apply aD;simp(disch:=omega) ;apply aO;clear aO;apply ae;intro K h;simp(disch:=omega);apply h;clear h K;apply an;simp(disch:=omega) ;refine⟨?_,rfl,rfl⟩;have:a=b:=EC (0,[]) hl (fun j bK=>hj j (by omega));simp[this]
attribute [-simp] getD_eq_getElem?_getD in
theorem Ep (x y:Int)(H:List aG)(T:ay):al Tryz.prog 152 [.int .i64 x,.int .i64 y] H T (Is (.bool (decide (x<y))) H T):=by
 have n1:∀z,al Tryz.prog 138 [.int .i64 z] H T (Is (.bool false) H T):=fun z=>by
  refine aj 3 [] Tryz.ntmps138 Tryz.func138 rfl (fun _ _=>Tryz.call138 _ _) (by simp) (fun HO=>?_);apply ae;intro K h;simp(disch:=omega);apply h;clear h K;apply ae;intro K h;simp(disch:=omega);apply h;clear h K;apply an;simp(disch:=omega) ;exact⟨rfl,rfl,rfl⟩
 generalize hq:decide (x<y)=q;refine aj 5 [] Tryz.ntmps152 Tryz.func152 rfl (fun _ _=>Tryz.call152 _ _) (by simp) (fun HO=>?_);apply ae;intro K h;simp(disch:=omega);apply h;clear h K;refine ae fun K hK=>?_;simp(disch:=omega) ;refine ah (n1 x) ?_;simp(disch:=omega) 
 (try simp(disch:=omega)[hq])
 apply hK;clear hK K;apply an;simp(disch:=omega) ;exact⟨rfl,rfl,rfl⟩
attribute [-simp] getD_eq_getElem?_getD in
theorem Kj (z:Int)(H:List aG)(T:ay):al Tryz.prog 153 [.int .i64 z] H T (Is (.bool false) H T):=by
 refine aj 3 [] Tryz.ntmps153 Tryz.func153 rfl (fun _ _=>Tryz.call153 _ _) (by simp) (fun HO=>?_);apply ae;intro K h;simp(disch:=omega);apply h;clear h K;apply ae;intro K h;simp(disch:=omega);apply h;clear h K;apply an;simp(disch:=omega) ;exact⟨rfl,rfl,rfl⟩
theorem tO {l:List Int}(h:jR l){i j:Nat}(lY:i<j)(hj:j<l.length):l.getD i 0<l.getD j 0:=by
 have:=(List.pairwise_iff_getElem.1 h) i j (by omega) hj lY;rw[getD_eq_getElem?_getD,getD_eq_getElem?_getD,getElem?_eq_getElem hj,getElem?_eq_getElem (show i<l.length by omega)];exact this
attribute [-simp] getD_eq_getElem?_getD in
theorem Du (l:List Int)(t:Int)(hs:jR l)(hl:l.length≤5000)(H:List aG)(T:ay)(tg:Tag) :
  al Tryz.prog 76 [.sl l.length (ints l) tg,.int .i64 t] H T (fun r H' T'=>H'=H∧T'=T∧∃i:Int,r=.cJ [.int .i64 i,.bool (decide (t∈l))]):=by
 refine al.cg ?_;refine aj 10 [] Tryz.ntmps76 Tryz.func76 rfl (fun _ _=>Tryz.call76 _ _) (by simp) (fun HO=>?_);apply ae;intro K h;simp(disch:=omega);apply h;clear h K;apply ae;intro K h;simp(disch:=omega);apply h;clear h K;apply ae;intro K h;simp(disch:=omega);apply h;clear h K;refine af fun K1 aO=>?_;apply ai;refine aK (X:=Nat×Nat) (fun x=>⟨[(0,.sl l.length (ints l) .none),(1,.int .i64 t),(6,.int .i64 (l.length:Nat)),(7,.int .i64 (x.1:Nat)),(8,.int .i64 (x.2:Nat))],H,T⟩)
  (fun x=>x.1≤x.2∧x.2≤l.length∧(∀j,j<x.1→l.getD j 0<t)∧(∀j,x.2≤j→j<l.length→t≤l.getD j 0)) (fun x=>x.2-x.1) (0,l.length) ?_ ?_ ?_
 ·exact⟨zero_le _,Nat.le_refl _,fun j hj=>absurd hj (not_lt_zero _),fun j h1 h2=>absurd h2 (Nat.not_lt.2 h1)⟩
 ·refine ag [] [] ?_ ?_ ?_ ?_ HO ?_
  all_goals simp
 ·rintro⟨lo,hi⟩ ⟨h1,h2,h3,h4⟩;simp only at h1 h2 h3 h4;refine af fun K2 aY=>?_;apply ae;intro K h;simp(disch:=omega);apply h;clear h K;refine aP rfl (fun hk=>?_) (fun hk=>?_)
  ·simp  at hk;have hm:(lo+hi) / 2<l.length:=by omega
   have R4:=aT (xs:=l) (k:=(lo+hi) / 2) hm;apply ak;simp(disch:=omega) ;apply aY;clear aY;apply ai;apply ae;intro K h;simp(disch:=omega);apply h;clear h K;rw[show ((lo:Int)+hi) / 2=(((lo+hi) / 2:Nat):Int) by omega];have ku:lo≤(lo+hi) / 2:=by omega
   have bh:(lo+hi) / 2<hi:=by omega
   generalize (lo+hi) / 2=m at *
   by_cases hc:l.getD m 0<t
   ·have c:=Ep (l.getD m 0) t H T;rw[decide_eq_true hc] at c;refine ae fun K hK=>?_;simp(disch:=omega)[R4];refine ah (c) ?_;simp(disch:=omega) ;apply hK;clear hK K;apply aH rfl;refine ar fun K hK=>?_;simp(disch:=omega) ;apply hK;clear hK K;refine⟨(m+1,hi),⟨by show m+1≤hi;omega,h2,fun j hj=>?_,h4⟩,by show hi-(m+1)<hi-lo;omega,?_⟩
    ·rcases lt_or_ge j m with h5|h5
     ·have:=tO hs h5 hm;omega
     ·have:j=m:=by simp only at hj;omega
      subst this;exact hc
    ·refine ag [] [] ?_ ?_ ?_ ?_ HO ?_
     all_goals simp
   ·have c:=Ep (l.getD m 0) t H T;rw[decide_eq_false hc] at c;refine ae fun K hK=>?_;simp(disch:=omega)[R4];refine ah (c) ?_;simp(disch:=omega) ;apply hK;clear hK K;apply aC rfl;refine ar fun K hK=>?_;simp(disch:=omega) ;apply hK;clear hK K;refine⟨(lo,m),⟨ku,by show m≤l.length;omega,h3,fun j hj vx=>?_⟩,by show m-lo<hi-lo;omega,?_⟩
    ·rcases lt_or_ge m j with h5|h5
     ·have:=tO hs h5 vx;omega
     ·have:j=m:=by simp only at hj;omega
      subst this;omega
    ·refine ag [] [] ?_ ?_ ?_ ?_ HO ?_
     all_goals simp
  ·simp  at hk;have e:hi=lo:=by omega
   subst e;apply aD;simp(disch:=omega) ;apply aO;clear aO;have cn:=fun z=>Kj z H T
   by_cases hn:hi<l.length
   ·have R4:=aT (xs:=l) (k:=hi) hn
    by_cases he:l.getD hi 0=t
    ·have lv:t∈l:=by rw[←he];exact oN l hi 0 hn
     have b:(l.getD hi 0==t)=true:=by simpa using he
     refine ae fun K hK=>?_;simp(disch:=omega)[R4,hn,b,he];apply hK;clear hK K;apply an;simp(disch:=omega) ;simp[lv]
    ·have lv:¬t∈l:=fun hm=>by
      obtain⟨j,hj,e⟩:=ic 0 hm;rcases Nat.lt_trichotomy j hi with h5|h5|h5
      ·have:=h3 j h5;omega
      ·subst h5;exact he e
      ·have:=tO hs h5 hj;have:=h4 hi (Nat.le_refl _) hn;omega
     have b:(l.getD hi 0==t)=false:=by simpa using he
     refine ae fun K hK=>?_;simp(disch:=omega)[R4,hn,b,he];refine ah (cn _) ?_;simp(disch:=omega) ;apply hK;clear hK K;apply an;simp(disch:=omega) ;simp[lv]
   ·have lv:¬t∈l:=fun hm=>by
     obtain⟨j,hj,e⟩:=ic 0 hm;have:=h3 j (by omega);omega
    refine ae fun K hK=>?_;simp(disch:=omega)[hn];apply hK;clear hK K;apply an;simp(disch:=omega) ;simp[lv]
end Go.Proofs.YtneohapkboaplaaGreat
