/- Posting lists of layer 38 as cells, and their copies. The documents of posting lists of layer 38. Valid of layer 38. Valid of layer 38: the whole. Valid, Count and Few of the reference of layer 38, and Count of the program. Same of the reference of layer 38, and same of the law. Near of layer 38: what it asks of two positions; whether some number of a list passes a test; searching among ascending numbers. Searching among ascending numbers.
  Conditions: lengths below 400 or 1000, as each theorem says. -/
import Derived.Test.YtneohapkboaplaaGreatPA
set_option linter.all false
set_option maxRecDepth 100000
set_option maxHeartbeats 2000000
open Nat (zero_le lt_or_ge not_lt_zero le_trans)
open List (getD_eq_getElem?_getD getElem?_eq_getElem getElem_mem)
namespace Go.Proofs.YtneohapkboaplaaGreat
open Go Go.Am dh
@[simp] theorem Iq (v w:AV):fH [v,w] 2=[v,w]:=rfl
def bp (l:List (Int×List Int)):List AV:=l.flatMap fun p=>[.int .i64 p.1,.sl p.2.length (ints p.2) .none]
theorem uQ:bp []=[]:=rfl
theorem aY (l:List (Int×List Int)):(bp l).length=l.length*2:=by
 induction l with
 |nil=>rfl
 |cons p l ih=>simp only[bp,List.flatMap_cons,List.length_append,List.length_cons,List.length_nil] at ih ⊢;omega
@[simp] theorem WH (n t:Nat) (l:List (Int×List Int)):aJ n t (bp l):=by
 intro v hv;obtain⟨p,_,hv⟩:=List.mem_flatMap.1 hv;simp at hv;rcases hv with rfl|rfl<;>simp
theorem oT (p:Int×List Int)(l:List (Int×List Int)):bp (p::l)=.int .i64 p.1::.sl p.2.length (ints p.2) .none::bp l:=by simp[bp]
theorem oS (l:List (Int×List Int))(d:Int)(at_:List Int):bp l++[.int .i64 d,.sl at_.length (ints at_) .none]=bp (l++[(d,at_)]):=by simp[bp]
theorem im:∀(l:List (Int×List Int)) (i:Nat),i<l.length→(bp l).getD (i*2) .top=.int .i64 (l.getD i (0,[])).1∧(bp l).getD (i*2+1) .top=.sl (l.getD i (0,[])).2.length (ints (l.getD i (0,[])).2) .none:=by
 intro l
 induction l with
 |nil=>intro i h;simp at h
 |cons p l ih=>
  intro i h
  cases i with
  |zero=>rw[oT];exact⟨rfl,rfl⟩
  |succ i=>
   have:=ih i (by simpa using h);rw[oT,show (i+1)*2=i*2+1+1 by omega];exact this
theorem jq:∀(l:List (Int×List Int)) (i:Nat),i<l.length→((bp l).drop (i*2)).take 2=[.int .i64 (l.getD i (0,[])).1,.sl (l.getD i (0,[])).2.length (ints (l.getD i (0,[])).2) .none]:=by
 intro l
 induction l with
 |nil=>intro i h;simp at h
 |cons p l ih=>
  intro i h
  cases i with
  |zero=>rw[oT];rfl
  |succ i=>
   have:=ih i (by simpa using h);rw[oT,show (i+1)*2=i*2+1+1 by omega];exact this
theorem xi (l:List (Int×List Int))(k:Nat)(h:k<l.length):bp (l.take k)++[.int .i64 (l.getD k (0,[])).1,.sl (l.getD k (0,[])).2.length (ints (l.getD k (0,[])).2) .none]=bp (l.take (k+1)):=by
 rw[oS,show ((l.getD k (0,[])).1,(l.getD k (0,[])).2)=l.getD k (0,[]) from rfl]
 congr 1
 rw[List.take_succ_eq_append_getElem h];simp[h]
attribute [-simp] getD_eq_getElem?_getD in
theorem w9 (l:List (Int×List Int))(hl:l.length≤1000)(H:List aA)(T:ar)(tg:Tag):aq Tryz.prog 29 [.sl l.length (bp l) tg] H T (Is (.sl l.length (bp l) .none) H T):=by
 refine aq.cD ?_;refine aq.cH ?_ (by simp);refine aj 5 [] Tryz.ntmps29 Tryz.func29 rfl (fun _ _=>Tryz.call29 _ _) (by simp) (fun HO=>?_);apply ae;intro K h;simp(disch:=omega);apply h;clear h K;apply ae;intro K h;simp(disch:=omega);apply h;clear h K;refine af fun K1 aQ=>?_;apply ae;intro K h;simp(disch:=omega);apply h;clear h K;apply ah;refine lF 3 0 2 [] (by omega) (by simp) ?_;refine aG (X:=Nat) (fun k=>⟨[(0,.sl l.length (bp l) .none),(3,.sl k (bp (l.take k)) (.own T.length)),(4,.int .i64 (k:Nat))],H,T++[(k*2,2)]⟩) (fun k=>k≤l.length) (fun k=>l.length-k) 0 ?_ ?_ ?_
 ·exact zero_le _
 ·refine ag [] [] ?_ ?_ ?_ ?_ (HO.fQ (by simp)) ?_
  all_goals simp[uQ]
 ·intro k hk;refine af fun K2 aW=>?_;apply ae;intro K h;simp(disch:=omega);apply h;clear h K;refine aN rfl (fun dg=>?_) (fun dg=>?_)
  ·simp  at dg;have bA:=jq l k dg;have pg:(bp (l.take k)).length=k*2:=by rw[aY,List.length_take];omega
   apply ai;simp(disch:=omega) ;apply aW;clear aW;refine af fun K3 bz=>?_;apply ah;refine au fun K hK=>?_;simp(disch:=omega)[bA,aY,pg,xi l k dg];apply hK;clear hK K;apply bz;clear bz;refine au fun K hK=>?_;simp(disch:=omega) ;apply hK;clear hK K;refine⟨k+1,by show k+1≤_;omega,by show l.length-(k+1)<l.length-k;omega,?_⟩;refine ag [] [] ?_ ?_ ?_ ?_ (HO.fQ (by simp)) ?_
   all_goals simp
  ·simp at dg;have:k=l.length:=by omega
   subst this;apply aC;simp(disch:=omega) ;apply aQ;clear aQ;apply ae;intro K h;simp(disch:=omega);apply h;clear h K;apply az;simp(disch:=omega) 
attribute [-simp] getD_eq_getElem?_getD in
theorem NH (l:List (Int×List Int))(hl:l.length≤1000)(H:List aA)(T:ar)(tg:Tag):aq Tryz.prog 78 [.sl l.length (bp l) tg] H T (Is (.sl l.length (bp l) .none) H T):=by
 refine aq.cD ?_;refine aq.cH ?_ (by simp);refine aj 5 [] Tryz.ntmps78 Tryz.func78 rfl (fun _ _=>Tryz.call78 _ _) (by simp) (fun HO=>?_);apply ae;intro K h;simp(disch:=omega);apply h;clear h K;apply ae;intro K h;simp(disch:=omega);apply h;clear h K;refine af fun K1 aQ=>?_;apply ae;intro K h;simp(disch:=omega);apply h;clear h K;apply ah;refine lF 3 0 2 [] (by omega) (by simp) ?_;refine aG (X:=Nat) (fun k=>⟨[(0,.sl l.length (bp l) .none),(3,.sl k (bp (l.take k)) (.own T.length)),(4,.int .i64 (k:Nat))],H,T++[(k*2,2)]⟩) (fun k=>k≤l.length) (fun k=>l.length-k) 0 ?_ ?_ ?_
 ·exact zero_le _
 ·refine ag [] [] ?_ ?_ ?_ ?_ (HO.fQ (by simp)) ?_
  all_goals simp[uQ]
 ·intro k hk;refine af fun K2 aW=>?_;apply ae;intro K h;simp(disch:=omega);apply h;clear h K;refine aN rfl (fun dg=>?_) (fun dg=>?_)
  ·simp  at dg;have bA:=jq l k dg;have pg:(bp (l.take k)).length=k*2:=by rw[aY,List.length_take];omega
   apply ai;simp(disch:=omega) ;apply aW;clear aW;refine af fun K3 bz=>?_;apply ah;refine au fun K hK=>?_;simp(disch:=omega)[bA,aY,pg,xi l k dg];apply hK;clear hK K;apply bz;clear bz;refine au fun K hK=>?_;simp(disch:=omega) ;apply hK;clear hK K;refine⟨k+1,by show k+1≤_;omega,by show l.length-(k+1)<l.length-k;omega,?_⟩;refine ag [] [] ?_ ?_ ?_ ?_ (HO.fQ (by simp)) ?_
   all_goals simp
  ·simp at dg;have:k=l.length:=by omega
   subst this;apply aC;simp(disch:=omega) ;apply aQ;clear aQ;apply ae;intro K h;simp(disch:=omega);apply h;clear h K;apply az;simp(disch:=omega) 
def an (l:List (Int×List Int)):List Int:=l.map (·.1)
theorem xO (l:List (Int×List Int))(k:Nat)(h:k<l.length):ints (an (l.take k))++[.int .i64 (l.getD k (0,[])).1]=ints (an (l.take (k+1))):=by
 have e:l.take (k+1)=l.take k++[l.getD k (0,[])]:=by
  rw[List.take_succ_eq_append_getElem h];simp[h]
 rw[e,cX];simp[an]
attribute [-simp] getD_eq_getElem?_getD in
theorem Bf (l:List (Int×List Int))(hl:l.length≤1000)(H:List aA)(T:ar)(tg:Tag):aq Tryz.prog 158 [.sl l.length (bp l) tg] H T (Is (.sl l.length (ints (an l)) .none) H T):=by
 refine aq.cD ?_;refine aq.cH ?_ (by simp);refine aj 5 [] Tryz.ntmps158 Tryz.func158 rfl (fun _ _=>Tryz.call158 _ _) (by simp) (fun HO=>?_);apply ae;intro K h;simp(disch:=omega);apply h;clear h K;apply ae;intro K h;simp(disch:=omega);apply h;clear h K;refine af fun K1 aQ=>?_;apply ae;intro K h;simp(disch:=omega);apply h;clear h K;apply ah;refine lF 3 0 1 [] (by omega) (by simp) ?_;refine aG (X:=Nat) (fun k=>⟨[(0,.sl l.length (bp l) .none),(3,.sl k (ints (an (l.take k))) (.own T.length)),(4,.int .i64 (k:Nat))],H,T++[(k,1)]⟩) (fun k=>k≤l.length) (fun k=>l.length-k) 0 ?_ ?_ ?_
 ·exact zero_le _
 ·refine ag [] [] ?_ ?_ ?_ ?_ (HO.fQ (by simp)) ?_
  all_goals simp[an,ints]
 ·intro k hk;refine af fun K2 aW=>?_;apply ae;intro K h;simp(disch:=omega);apply h;clear h K;refine aN rfl (fun dg=>?_) (fun dg=>?_)
  ·simp  at dg;have fP:=(im l k dg).1;have pg:(ints (an (l.take k))).length=k:=by simp[an,ints];omega
   have eN:=xO l k dg;generalize ints (an (l.take k))=out at *;apply ai;simp(disch:=omega) ;apply aW;clear aW;refine af fun K3 bz=>?_;apply ah;refine au fun K hK=>?_;simp(disch:=omega)[fP,aY,pg,eN];apply hK;clear hK K;apply bz;clear bz;refine au fun K hK=>?_;simp(disch:=omega) ;apply hK;clear hK K;refine⟨k+1,by show k+1≤_;omega,by show l.length-(k+1)<l.length-k;omega,?_⟩;refine ag [] [] ?_ ?_ ?_ ?_ (HO.fQ (by simp)) ?_
   all_goals simp
  ·simp at dg;have:k=l.length:=by omega
   subst this;apply aC;simp(disch:=omega) ;apply aQ;clear aQ;apply ae;intro K h;simp(disch:=omega);apply h;clear h K;apply az;simp(disch:=omega) 
attribute [-simp] getD_eq_getElem?_getD in
theorem ru (l:List (Int×List Int))(hl:l.length≤1000)(H:List aA)(T:ar)(tg:Tag):aq Tryz.prog 149 [.sl l.length (bp l) tg] H T (Is (.sl l.length (ints (an l)) .none) H T):=by
 refine aq.cD ?_;refine aq.cH ?_ (by simp);refine aj 12 [] Tryz.ntmps149 Tryz.func149 rfl (fun _ _=>Tryz.call149 _ _) (by simp) (fun HO=>?_);apply ae;intro K h;simp(disch:=omega);apply h;clear h K;apply ae;intro K h;simp(disch:=omega);apply h;clear h K;refine af fun K1 aQ=>?_;apply ae;intro K h;simp(disch:=omega);apply h;clear h K;apply ah;refine aG (X:=Nat) (fun k=>⟨[(3,.sl k (ints (an (l.take k))) (.own T.length)),(9,.sl l.length (bp l) .none),(10,.int .i64 (l.length:Nat)),(11,.int .i64 (k:Nat))],H,T++[(k,1)]⟩) (fun k=>k≤l.length) (fun k=>l.length-k) 0 ?_ ?_ ?_
 ·exact zero_le _
 ·refine ag [] [] ?_ ?_ ?_ ?_ (HO.fQ (by simp)) ?_
  all_goals simp[an,ints]
 ·intro k hk;apply ae;intro K h;simp(disch:=omega);apply h;clear h K;refine af fun K2 aW=>?_;refine aN rfl (fun dg=>?_) (fun dg=>?_)
  ·simp  at dg;have bA:=jq l k dg;have pg:(ints (an (l.take k))).length=k:=by simp[an,ints];omega
   have eN:=xO l k dg;generalize ints (an (l.take k))=out at *;apply ai;simp(disch:=omega) ;apply aW;clear aW;refine af fun K3 bz=>?_;apply ah;refine ae fun K hK=>?_;simp(disch:=omega)[bA,aY];apply hK;clear hK K;refine au fun K hK=>?_;simp(disch:=omega)[pg,eN];apply hK;clear hK K;apply bz;clear bz;refine au fun K hK=>?_;simp(disch:=omega) ;apply hK;clear hK K;refine⟨k+1,by show k+1≤_;omega,by show l.length-(k+1)<l.length-k;omega,?_⟩;refine ag [.cells [.int .i64 (l.getD k (0,[])).1,.sl (l.getD k (0,[])).2.length (ints (l.getD k (0,[])).2) .none]] [] ?_ ?_ ?_ ?_ (HO.fQ (by simp)) ?_
   all_goals simp
  ·simp at dg;have:k=l.length:=by omega
   subst this;apply aC;simp(disch:=omega) ;apply aQ;clear aQ;apply ae;intro K h;simp(disch:=omega);apply h;clear h K;apply az;simp(disch:=omega) 
def gN (p:Int×List Int):Bool:=decide (p.2.length=0)||!ju p.2 0 1000000
def bX (l:List (Int×List Int)):Bool:=ju (an l) 1 1000000000&&!l.any gN
attribute [-simp] getD_eq_getElem?_getD in
theorem Gz (p:Int×List Int)(hp:p.2.length≤maxLen)(H:List aA)(T:ar):aq Tryz.prog 148 [.agg [.int .i64 p.1,.sl p.2.length (ints p.2) .none]] H T (Is (.bool (gN p)) H T):=by
 refine aq.cH ?_ (by simp);have c:=Kh p.2 0 1000000 hp (H++[.cells [.int .i64 p.1,.sl p.2.length (ints p.2) .none]]) T .none;refine aj 3 [] Tryz.ntmps148 Tryz.func148 rfl (fun _ _=>Tryz.call148 _ _) (by simp) (fun HO=>?_);apply ae;intro K h;simp(disch:=omega);apply h;clear h K
 by_cases h0:p.2.length=0
 ·have b:((p.2.length:Int)==0)=true:=by rw[h0];rfl
  have h1:(p.2.length:Int)=0:=by omega
  have h2:p.2=[]:=List.eq_nil_of_length_eq_zero h0;refine ae fun K hK=>?_;simp(disch:=omega)[b,h1,h2];apply hK;clear hK K;apply az;simp(disch:=omega) ;simp[gN,h0]
 ·have b:((p.2.length:Int)==0)=false:=by rw[beq_eq_false_iff_ne];omega
  have h2:¬p.2=[]:=fun e=>h0 (by rw[e];rfl);refine ae fun K hK=>?_;simp(disch:=omega)[b,h2];refine ak (c) ?_;simp(disch:=omega) ;apply hK;clear hK K;apply az;simp(disch:=omega) ;simp[gN,h2]
attribute [-simp] getD_eq_getElem?_getD in
theorem Lf (l:List (Int×List Int))(hl:l.length≤1000)(hp:∀p∈l,p.2.length≤maxLen)(H:List aA)(T:ar) :
  aq Tryz.prog 197 [.sl l.length (bp l) .none,.fn 148 [] []] H T (fun r H' T'=>H'=H∧T'=T∧∃v:Int,r=.int .i64 v∧decide (0≤v)=l.any gN):=by
 generalize hq:l.any gN=q;refine aj 9 [] Tryz.ntmps197 Tryz.func197 rfl (fun _ _=>Tryz.call197 _ _) (by simp) (fun HO=>?_);apply ae;intro K h;simp(disch:=omega);apply h;clear h K;refine af fun K1 aQ=>?_;apply ae;intro K h;simp(disch:=omega);apply h;clear h K;apply ah;refine aG (X:=Nat) (fun k=>⟨[(0,.sl l.length (bp l) .none),(1,.fn 148 [] []),(7,.int .i64 (l.length:Nat)),(8,.int .i64 (k:Nat))],H,T⟩) (fun k=>k≤l.length∧∀j,j<k→gN (l.getD j (0,[]))=false) (fun k=>l.length-k) 0 ?_ ?_ ?_
 ·exact⟨zero_le _,fun j hj=>absurd hj (not_lt_zero _)⟩
 ·refine ag [] [] ?_ ?_ ?_ ?_ HO ?_
  all_goals simp
 ·rintro k ⟨h1,h2⟩;apply ae;intro K h;simp(disch:=omega);apply h;clear h K;refine af fun K2 aW=>?_;refine aN rfl (fun hk=>?_) (fun hk=>?_)
  ·simp  at hk;have bA:=jq l k hk;have hm:l.getD k (0,[])∈l:=by
    rw[getD_eq_getElem?_getD,getElem?_eq_getElem hk];exact getElem_mem hk
   have c:=Gz (l.getD k (0,[])) (hp _ hm) H T;apply ai;simp(disch:=omega) ;apply aW;clear aW;refine af fun K3 bz=>?_;apply ah;apply ae;intro K h;simp(disch:=omega);apply h;clear h K
   cases hb:gN (l.getD k (0,[])) with
   |true=>
    rw[hb] at c;refine ae fun K hK=>?_;simp(disch:=omega)[bA,aY];refine ak (c) ?_;simp(disch:=omega) ;apply hK;clear hK K;apply aF rfl;apply ae;intro K h;simp(disch:=omega);apply h;clear h K;apply az;simp(disch:=omega) ;have:l.any gN=true:=List.any_eq_true.2 ⟨_,hm,hb⟩;rw[hq] at this;simp[this]
   |false=>
    rw[hb] at c;refine ae fun K hK=>?_;simp(disch:=omega)[bA,aY];refine ak (c) ?_;simp(disch:=omega) ;apply hK;clear hK K;apply aD rfl;apply ai;simp(disch:=omega) ;apply bz;clear bz;refine au fun K hK=>?_;simp(disch:=omega) ;apply hK;clear hK K;refine⟨k+1,⟨by show k+1≤_;omega,fun j hj=>?_⟩,by show l.length-(k+1)<l.length-k;omega,?_⟩
    ·rcases lt_or_ge j k with h3|h3
     ·exact h2 j h3
     ·have:j=k:=by omega
      subst this;exact hb
    ·refine ag [] [] ?_ ?_ ?_ ?_ HO ?_
     all_goals simp
  ·simp  at hk;have hn:l.any gN=false:=by
    rw[List.any_eq_false];intro p Zm;obtain⟨j,hj,e⟩:=List.mem_iff_getElem.1 Zm;have:=h2 j (by omega);rw[getD_eq_getElem?_getD,getElem?_eq_getElem hj] at this;simp only[Option.getD_some,e] at this;simp[this]
   apply aC;simp(disch:=omega) ;apply aQ;clear aQ;apply ae;intro K h;simp(disch:=omega);apply h;clear h K;apply az;simp(disch:=omega) ;rw[hq] at hn;simp[hn]
attribute [-simp] getD_eq_getElem?_getD in
theorem Cd (l:List (Int×List Int))(hl:l.length≤1000)(hp:∀p∈l,p.2.length≤maxLen)(H:List aA)(T:ar) :
  aq Tryz.prog 150 [.sl l.length (bp l) .none,.fn 148 [] []] H T (Is (.bool (l.any gN)) H T):=by
 have c:=Lf l hl hp H T;generalize l.any gN=q at *;refine aj 5 [] Tryz.ntmps150 Tryz.func150 rfl (fun _ _=>Tryz.call150 _ _) (by simp) (fun HO=>?_);apply ae;intro K h;simp(disch:=omega);apply h;clear h K;refine ae fun K hK=>?_;simp(disch:=omega) ;refine⟨_,c,?_⟩;rintro r H' T' ⟨rfl,rfl,v,rfl,hv⟩;simp(disch:=omega)[hv];apply hK;clear hK K;apply az;simp(disch:=omega) ;exact⟨rfl,rfl,rfl⟩
attribute [-simp] getD_eq_getElem?_getD in
theorem qT (l:List (Int×List Int))(hl:l.length≤1000)(hp:∀p∈l,p.2.length≤maxLen)(H:List aA)(T:ar)(tg:Tag) :
  aq Tryz.prog 73 [.sl l.length (bp l) tg] H T (Is (.bool (bX l)) H T):=by
 refine aq.cD ?_;have c1:=ru l hl H T .none;have lN:(an l).length=l.length:=by simp[an]
 have c2:=jS (an l) (by rw[lN];exact le_trans hl (by decide)) H T .none;rw[lN] at c2;have c3:=Cd l hl hp H T;unfold bX;generalize l.any gN=q at *;refine aj 4 [] Tryz.ntmps73 Tryz.func73 rfl (fun _ _=>Tryz.call73 _ _) (by simp) (fun HO=>?_);apply ae;intro K h;simp(disch:=omega);apply h;clear h K;apply ae;intro K h;simp(disch:=omega);apply h;clear h K
 cases hv:ju (an l) 1 1000000000 with
 |false=>
  rw[hv] at c2;refine ae fun K hK=>?_;simp(disch:=omega) ;refine ak (c1) ?_;simp(disch:=omega) ;refine ak (c2) ?_;simp(disch:=omega) ;apply hK;clear hK K;apply az;simp(disch:=omega) ;exact⟨rfl,rfl,rfl⟩
 |true=>
  rw[hv] at c2;refine ae fun K hK=>?_;simp(disch:=omega) ;refine ak (c1) ?_;simp(disch:=omega) ;refine ak (c2) ?_;simp(disch:=omega) ;refine ak (c3) ?_;simp(disch:=omega) ;apply hK;clear hK K;apply az;simp(disch:=omega) ;exact⟨rfl,rfl,rfl⟩
theorem tn {α:Type}(l:List α)(k:Nat)(d:α)(h:k<l.length):l.getD k d∈l:=by
 rw[getD_eq_getElem?_getD,getElem?_eq_getElem h];exact getElem_mem h
theorem iv {α:Type}{l:List α}{x:α}(d:α)(h:x∈l):∃k,k<l.length∧l.getD k d=x:=by
 obtain⟨j,hj,e⟩:=List.mem_iff_getElem.1 h;refine⟨j,hj,?_⟩;rw[getD_eq_getElem?_getD,getElem?_eq_getElem hj];exact e
theorem Di {l:List (Int×List Int)}{k:Nat}(hk:k<l.length)(h:gN (l.getD k (0,[]))=true):bX l=false:=by
 have:l.any gN=true:=List.any_eq_true.2 ⟨_,tn l k _ hk,h⟩;simp[bX,this]
theorem BJ {l:List (Int×List Int)}(h:∀j,j<l.length→gN (l.getD j (0,[]))=false):bX l=ju (an l) 1 1000000000:=by
 have:l.any gN=false:=by
  rw[List.any_eq_false];intro p hp;obtain⟨j,hj,e⟩:=iv (0,[]) hp;rw[←e,h j hj];simp
 simp[bX,this]
attribute [-simp] getD_eq_getElem?_getD in
theorem wZ (l:List (Int×List Int))(hl:l.length≤1000)(hp:∀p∈l,p.2.length≤maxLen)(H:List aA)(T:ar)(tg:Tag) :
  aq Tryz.prog 86 [.sl l.length (bp l) tg] H T (Is (.bool (bX l)) H T):=by
 refine aq.cD ?_;have lN:(an l).length=l.length:=by simp[an]
 have c1:=Bf l hl H T .none;have c2:=fy (an l) (by rw[lN];exact le_trans hl (by decide)) H T .none;rw[lN] at c2;generalize hq:bX l=q;refine aj 6 [] Tryz.ntmps86 Tryz.func86 rfl (fun _ _=>Tryz.call86 _ _) (by simp) (fun HO=>?_);apply ae;intro K h;simp(disch:=omega);apply h;clear h K;refine af fun K1 aQ=>?_;apply ae;intro K h;simp(disch:=omega);apply h;clear h K;apply ah;refine aG (X:=Nat) (fun k=>⟨[(0,.sl l.length (bp l) .none),(3,.int .i64 (k:Nat))],H,T⟩) (fun k=>k≤l.length∧∀j,j<k→gN (l.getD j (0,[]))=false) (fun k=>l.length-k) 0 ?_ ?_ ?_
 ·exact⟨zero_le _,fun j hj=>absurd hj (not_lt_zero _)⟩
 ·refine ag [] [] ?_ ?_ ?_ ?_ HO ?_
  all_goals simp
 ·rintro k ⟨h1,h2⟩;refine af fun K2 aW=>?_;apply ae;intro K h;simp(disch:=omega);apply h;clear h K;refine aN rfl (fun hk=>?_) (fun hk=>?_)
  ·simp  at hk;have fP:=(im l k hk).2;have c:=Fv (l.getD k (0,[])).2 0 1000000 (hp _ (tn l k _ hk)) H T .none;have oI:gN (l.getD k (0,[]))=true→q=false:=fun h=>by rw[←hq];exact Di hk h
   have iE:gN (l.getD k (0,[]))=false→∀j,j<k+1→gN (l.getD j (0,[]))=false:=fun h j hj=>by
    rcases lt_or_ge j k with h3|h3
    ·exact h2 j h3
    ·have:j=k:=by omega
     subst this;exact h
   generalize l.getD k (0,[])=p at fP c oI iE;apply ai;simp(disch:=omega) ;apply aW;clear aW;refine af fun K3 bz=>?_;apply ah
   by_cases h0:p.2=[]
   ·have b:((p.2.length:Int)==0)=true:=by rw[h0];rfl
    refine ae fun K hK=>?_;simp(disch:=omega)[fP,aY,b,h0];apply hK;clear hK K;apply aF rfl;apply ae;intro K h;simp(disch:=omega);apply h;clear h K;apply az;simp(disch:=omega) ;rw[oI (by simp[gN,h0])];exact⟨rfl,rfl,rfl⟩
   ·have b:((p.2.length:Int)==0)=false:=by rw[beq_eq_false_iff_ne];intro e;exact h0 (List.eq_nil_of_length_eq_zero (by omega))
    cases ha:ju p.2 0 1000000
    ·rw[ha] at c;refine ae fun K hK=>?_;simp(disch:=omega)[fP,aY,b,h0];refine ak (c) ?_;simp(disch:=omega) ;apply hK;clear hK K;apply aF rfl;apply ae;intro K h;simp(disch:=omega);apply h;clear h K;apply az;simp(disch:=omega) ;rw[oI (by simp[gN,ha])];exact⟨rfl,rfl,rfl⟩
    ·rw[ha] at c;refine ae fun K hK=>?_;simp(disch:=omega)[fP,aY,b,h0];refine ak (c) ?_;simp(disch:=omega) ;apply hK;clear hK K;apply aD rfl;apply ai;simp(disch:=omega) ;apply bz;clear bz;refine au fun K hK=>?_;simp(disch:=omega) ;apply hK;clear hK K;refine⟨k+1,⟨by show k+1≤_;omega,iE (by simp[gN,ha,h0])⟩,by show l.length-(k+1)<l.length-k;omega,?_⟩;refine ag [] [] ?_ ?_ ?_ ?_ HO ?_
     all_goals simp
  ·simp  at hk;have hn:=BJ (l:=l) (fun j hj=>h2 j (by omega));rw[←hn,hq] at c2;apply aC;simp(disch:=omega) ;apply aQ;clear aQ;refine ae fun K hK=>?_;simp(disch:=omega) ;refine ak (c1) ?_;simp(disch:=omega) ;refine ak (c2) ?_;simp(disch:=omega) ;apply hK;clear hK K;apply az;simp(disch:=omega) ;exact⟨rfl,rfl,rfl⟩
attribute [-simp] getD_eq_getElem?_getD in
theorem QS (l:List (Int×List Int))(hl:l.length≤maxLen)(hp:∀p∈l,p.2.length≤maxLen)(H:List aA)(T:ar)(tg:Tag) :
  aq Tryz.prog 77 [.sl l.length (bp l) tg] H T (Is (.bool (decide (l.length≤30∧∀p∈l,p.2.length≤30))) H T):=by
 refine aq.cD ?_;have hY:maxLen≤9223372036854775807:=by decide
 have mO:=le_trans hl hY;generalize hq:decide (l.length≤30∧∀p∈l,p.2.length≤30)=q;refine aj 6 [] Tryz.ntmps77 Tryz.func77 rfl (fun _ _=>Tryz.call77 _ _) (by simp) (fun HO=>?_);apply ae;intro K h;simp(disch:=omega);apply h;clear h K;refine af fun K1 aQ=>?_;apply ae;intro K h;simp(disch:=omega);apply h;clear h K;apply ah;refine aG (X:=Nat) (fun k=>⟨[(0,.sl l.length (bp l) .none),(3,.int .i64 (k:Nat))],H,T⟩) (fun k=>k≤l.length∧∀j,j<k→(l.getD j (0,[])).2.length≤30) (fun k=>l.length-k) 0 ?_ ?_ ?_
 ·exact⟨zero_le _,fun j hj=>absurd hj (not_lt_zero _)⟩
 ·refine ag [] [] ?_ ?_ ?_ ?_ HO ?_
  all_goals simp
 ·rintro k ⟨h1,h2⟩;refine af fun K2 aW=>?_;apply ae;intro K h;simp(disch:=omega);apply h;clear h K;refine aN rfl (fun hk=>?_) (fun hk=>?_)
  ·simp  at hk;have fP:=(im l k hk).2;have hpk:=le_trans (hp _ (tn l k (0,[]) hk)) hY;have oI:¬(l.getD k (0,[])).2.length≤30→q=false:=fun h=>by rw[←hq];exact decide_eq_false (fun hh=>h (hh.2 _ (tn l k _ hk)))
   have iE:(l.getD k (0,[])).2.length≤30→∀j,j<k+1→(l.getD j (0,[])).2.length≤30:=fun h j hj=>by
    rcases lt_or_ge j k with h3|h3
    ·exact h2 j h3
    ·have:j=k:=by omega
     subst this;exact h
   generalize l.getD k (0,[])=p at fP oI iE hpk;apply ai;simp(disch:=omega) ;apply aW;clear aW;refine af fun K3 bz=>?_;apply ah
   by_cases h0:p.2.length≤30
   ·have b:decide ((30:Int)<(p.2.length:Int))=false:=by simp;omega
    have b2:¬30<p.2.length:=by omega
    refine ae fun K hK=>?_;simp(disch:=omega)[fP,aY,b,b2];apply hK;clear hK K;apply aD rfl;apply ai;simp(disch:=omega) ;apply bz;clear bz;refine au fun K hK=>?_;simp(disch:=omega) ;apply hK;clear hK K;refine⟨k+1,⟨by show k+1≤_;omega,iE h0⟩,by show l.length-(k+1)<l.length-k;omega,?_⟩;refine ag [] [] ?_ ?_ ?_ ?_ HO ?_
    all_goals simp
   ·have b:decide ((30:Int)<(p.2.length:Int))=true:=by simp;omega
    have b2:30<p.2.length:=by omega
    refine ae fun K hK=>?_;simp(disch:=omega)[fP,aY,b,b2];apply hK;clear hK K;apply aF rfl;apply ae;intro K h;simp(disch:=omega);apply h;clear h K;apply az;simp(disch:=omega) ;rw[oI h0];exact⟨rfl,rfl,rfl⟩
  ·simp  at hk;have fj:∀p∈l,p.2.length≤30:=fun p hp=>by
    obtain⟨j,hj,e⟩:=iv (0,[]) hp;rw[←e];exact h2 j (by omega)
   have hb:decide ((l.length:Int)≤30)=q:=by
    rw[←hq];apply decide_eq_decide.2
    constructor
    ·intro h;exact⟨by omega,fj⟩
    ·intro h;omega
   apply aC;simp(disch:=omega) ;apply aQ;clear aQ;apply ae;intro K h;simp(disch:=omega);apply h;clear h K;apply az;simp(disch:=omega) ;rw[←hb];refine⟨?_,rfl,rfl⟩;simp
attribute [-simp] getD_eq_getElem?_getD in
theorem AE (a b:List (Int×List Int))(ha:a.length≤1000)(hb:b.length≤1000)(Mp:∀p∈a,p.2.length≤maxLen)(Mo:∀p∈b,p.2.length≤maxLen)(H:List aA)(T:ar)(ta tb:Tag) :
  aq Tryz.prog 79 [.sl a.length (bp a) ta,.sl b.length (bp b) tb] H T (Is (.bool (decide (a=b))) H T):=by
 refine aq.cD (aq.lD ?_);refine aj 6 [] Tryz.ntmps79 Tryz.func79 rfl (fun _ _=>Tryz.call79 _ _) (by simp) (fun HO=>?_);apply ae;intro K h;simp(disch:=omega);apply h;clear h K;refine af fun K1 aQ=>?_;apply ae;intro K h;simp(disch:=omega);apply h;clear h K;refine aN rfl (fun h=>?_) (fun h=>?_)
 ·simp  at h;apply ae;intro K h;simp(disch:=omega);apply h;clear h K;apply az;simp(disch:=omega) ;have:¬a=b:=by intro e;subst e;exact h rfl
  rw[decide_eq_false this];exact⟨rfl,rfl,rfl⟩
 ·simp  at h;have hl:a.length=b.length:=by omega
  apply ai;simp(disch:=omega) ;apply aQ;clear aQ;refine af fun K1 aQ=>?_;apply ae;intro K h;simp(disch:=omega);apply h;clear h K;apply ah;refine aG (X:=Nat) (fun i=>⟨[(0,.sl a.length (bp a) .none),(1,.sl b.length (bp b) .none),(5,.int .i64 (i:Nat))],H,T⟩) (fun i=>i≤a.length∧∀j,j<i→a.getD j (0,[])=b.getD j (0,[])) (fun i=>a.length-i) 0 ?_ ?_ ?_
  ·exact⟨by omega,fun j hj=>by omega⟩
  ·refine ag [] [] ?_ ?_ ?_ ?_ HO ?_
   all_goals simp
  ·rintro i ⟨hi,hj⟩;refine af fun K2 aW=>?_;apply ae;intro K h;simp(disch:=omega);apply h;clear h K;refine aN rfl (fun h=>?_) (fun h=>?_)
   ·simp  at h;have mg:=im a i h;have yh:=im b i (by omega);have W3:a.getD i (0,[])∈a:=by
     rw[getD_eq_getElem?_getD,getElem?_eq_getElem h];exact getElem_mem h
    have hmB:b.getD i (0,[])∈b:=by
     rw[getD_eq_getElem?_getD,getElem?_eq_getElem (show i<b.length by omega)];exact getElem_mem _
    have c:=oA (a.getD i (0,[])).2 (b.getD i (0,[])).2 (Mp _ W3) (Mo _ hmB) H T .none .none;have eM:a.getD i (0,[])=b.getD i (0,[])→∀j,j<i+1→a.getD j (0,[])=b.getD j (0,[]):=fun he j bR=>by
     rcases lt_or_ge j i with h1|h1
     ·exact hj j h1
     ·have:j=i:=by omega
      subst this;exact he
    have nC:a.getD i (0,[])≠b.getD i (0,[])→¬a=b:=fun h e=>h (by rw[e]);have Qh:i<b.length:=by omega
    generalize a.getD i (0,[])=p at mg c eM nC;generalize b.getD i (0,[])=q at yh c eM nC;apply ai;simp(disch:=omega) ;apply aW;clear aW;refine af fun K3 bz=>?_;apply ah
    by_cases he:p.1=q.1
    ·have bb:(p.1!=q.1)=false:=by simp[he]
     cases hs:(p.2==q.2)
     ·rw[hs] at c;refine aI [] [] [] al (by kernel_rfl) (by kernel_rfl) fun K hK=>?_;simp(disch:=omega)[mg.1,mg.2,yh.1,yh.2,aY,he,Qh];refine aB (c) rfl ?_;simp(disch:=omega) ;apply hK;clear hK K;apply aF rfl;apply ae;intro K h;simp(disch:=omega);apply h;clear h K;apply az;simp(disch:=omega) ;have:¬a=b:=nC (fun e=>by rw[e] at hs;simp at hs);rw[decide_eq_false this];exact⟨rfl,rfl,rfl⟩
     ·rw[hs] at c;refine aI [] [] [] al (by kernel_rfl) (by kernel_rfl) fun K hK=>?_;simp(disch:=omega)[mg.1,mg.2,yh.1,yh.2,aY,he,Qh];refine aB (c) rfl ?_;simp(disch:=omega) ;apply hK;clear hK K;apply aD rfl;apply ai;simp(disch:=omega) ;apply bz;clear bz;refine au fun K hK=>?_;simp(disch:=omega) ;apply hK;clear hK K;refine⟨i+1,⟨by omega,eM (Prod.ext he (by simpa using hs))⟩,by omega,?_⟩;refine ag [] [] ?_ ?_ ?_ ?_ HO ?_
      all_goals simp
    ·have s9:(p.1!=q.1)=true:=bne_iff_ne.2 he;refine aI [] [] [] al (by kernel_rfl) (by kernel_rfl) fun K hK=>?_;simp(disch:=omega)[mg.1,mg.2,yh.1,yh.2,aY,s9,Qh];apply hK;clear hK K;apply aF rfl;apply ae;intro K h;simp(disch:=omega);apply h;clear h K;apply az;simp(disch:=omega) ;have:¬a=b:=nC (fun e=>he (by rw[e]));rw[decide_eq_false this];exact⟨rfl,rfl,rfl⟩
   ·simp  at h;apply aC;simp(disch:=omega) ;apply aQ;clear aQ;apply ae;intro K h;simp(disch:=omega);apply h;clear h K;apply az;simp(disch:=omega) ;refine⟨?_,rfl,rfl⟩;have:a=b:=Fl (0,[]) hl (fun j bR=>hj j (by omega));simp[this]
attribute [-simp] getD_eq_getElem?_getD in
theorem E5 (x y:Int)(H:List aA)(T:ar):aq Tryz.prog 152 [.int .i64 x,.int .i64 y] H T (Is (.bool (decide (x<y))) H T):=by
 have n1:∀z,aq Tryz.prog 138 [.int .i64 z] H T (Is (.bool false) H T):=fun z=>by
  refine aj 3 [] Tryz.ntmps138 Tryz.func138 rfl (fun _ _=>Tryz.call138 _ _) (by simp) (fun HO=>?_);apply ae;intro K h;simp(disch:=omega);apply h;clear h K;apply ae;intro K h;simp(disch:=omega);apply h;clear h K;apply az;simp(disch:=omega) ;exact⟨rfl,rfl,rfl⟩
 generalize hq:decide (x<y)=q;refine aj 5 [] Tryz.ntmps152 Tryz.func152 rfl (fun _ _=>Tryz.call152 _ _) (by simp) (fun HO=>?_);apply ae;intro K h;simp(disch:=omega);apply h;clear h K;refine ae fun K hK=>?_;simp(disch:=omega) ;refine ak (n1 x) ?_;simp(disch:=omega) 
 (try simp(disch:=omega)[hq])
 apply hK;clear hK K;apply az;simp(disch:=omega) ;exact⟨rfl,rfl,rfl⟩
attribute [-simp] getD_eq_getElem?_getD in
theorem Lb (z:Int)(H:List aA)(T:ar):aq Tryz.prog 153 [.int .i64 z] H T (Is (.bool false) H T):=by
 refine aj 3 [] Tryz.ntmps153 Tryz.func153 rfl (fun _ _=>Tryz.call153 _ _) (by simp) (fun HO=>?_);apply ae;intro K h;simp(disch:=omega);apply h;clear h K;apply ae;intro K h;simp(disch:=omega);apply h;clear h K;apply az;simp(disch:=omega) ;exact⟨rfl,rfl,rfl⟩
theorem tY {l:List Int}(h:kU l){i j:Nat}(jt:i<j)(hj:j<l.length):l.getD i 0<l.getD j 0:=by
 have:=(List.pairwise_iff_getElem.1 h) i j (by omega) hj jt;rw[getD_eq_getElem?_getD,getD_eq_getElem?_getD,getElem?_eq_getElem hj,getElem?_eq_getElem (show i<l.length by omega)];exact this
attribute [-simp] getD_eq_getElem?_getD in
theorem Eb (l:List Int)(t:Int)(hs:kU l)(hl:l.length≤1000)(H:List aA)(T:ar)(tg:Tag) :
  aq Tryz.prog 76 [.sl l.length (ints l) tg,.int .i64 t] H T (fun r H' T'=>H'=H∧T'=T∧∃i:Int,r=.df [.int .i64 i,.bool (decide (t∈l))]):=by
 refine aq.cD ?_;refine aj 10 [] Tryz.ntmps76 Tryz.func76 rfl (fun _ _=>Tryz.call76 _ _) (by simp) (fun HO=>?_);apply ae;intro K h;simp(disch:=omega);apply h;clear h K;apply ae;intro K h;simp(disch:=omega);apply h;clear h K;apply ae;intro K h;simp(disch:=omega);apply h;clear h K;refine af fun K1 aQ=>?_;apply ah;refine aG (X:=Nat×Nat) (fun x=>⟨[(0,.sl l.length (ints l) .none),(1,.int .i64 t),(6,.int .i64 (l.length:Nat)),(7,.int .i64 (x.1:Nat)),(8,.int .i64 (x.2:Nat))],H,T⟩)
  (fun x=>x.1≤x.2∧x.2≤l.length∧(∀j,j<x.1→l.getD j 0<t)∧(∀j,x.2≤j→j<l.length→t≤l.getD j 0)) (fun x=>x.2-x.1) (0,l.length) ?_ ?_ ?_
 ·exact⟨zero_le _,Nat.le_refl _,fun j hj=>absurd hj (not_lt_zero _),fun j h1 h2=>absurd h2 (Nat.not_lt.2 h1)⟩
 ·refine ag [] [] ?_ ?_ ?_ ?_ HO ?_
  all_goals simp
 ·rintro⟨lo,hi⟩ ⟨h1,h2,h3,h4⟩;simp only at h1 h2 h3 h4;refine af fun K2 aW=>?_;apply ae;intro K h;simp(disch:=omega);apply h;clear h K;refine aN rfl (fun hk=>?_) (fun hk=>?_)
  ·simp  at hk;have hm:(lo+hi) / 2<l.length:=by omega
   have Sy:=aS (xs:=l) (k:=(lo+hi) / 2) hm;apply ai;simp(disch:=omega) ;apply aW;clear aW;apply ah;apply ae;intro K h;simp(disch:=omega);apply h;clear h K;rw[show ((lo:Int)+hi) / 2=(((lo+hi) / 2:Nat):Int) by omega];have jE:lo≤(lo+hi) / 2:=by omega
   have aZ:(lo+hi) / 2<hi:=by omega
   generalize (lo+hi) / 2=m at *
   by_cases hc:l.getD m 0<t
   ·have c:=E5 (l.getD m 0) t H T;rw[decide_eq_true hc] at c;refine ae fun K hK=>?_;simp(disch:=omega)[Sy];refine ak (c) ?_;simp(disch:=omega) ;apply hK;clear hK K;apply aF rfl;refine au fun K hK=>?_;simp(disch:=omega) ;apply hK;clear hK K;refine⟨(m+1,hi),⟨by show m+1≤hi;omega,h2,fun j hj=>?_,h4⟩,by show hi-(m+1)<hi-lo;omega,?_⟩
    ·rcases lt_or_ge j m with h5|h5
     ·have:=tY hs h5 hm;omega
     ·have:j=m:=by simp only at hj;omega
      subst this;exact hc
    ·refine ag [] [] ?_ ?_ ?_ ?_ HO ?_
     all_goals simp
   ·have c:=E5 (l.getD m 0) t H T;rw[decide_eq_false hc] at c;refine ae fun K hK=>?_;simp(disch:=omega)[Sy];refine ak (c) ?_;simp(disch:=omega) ;apply hK;clear hK K;apply aD rfl;refine au fun K hK=>?_;simp(disch:=omega) ;apply hK;clear hK K;refine⟨(lo,m),⟨jE,by show m≤l.length;omega,h3,fun j hj vW=>?_⟩,by show m-lo<hi-lo;omega,?_⟩
    ·rcases lt_or_ge m j with h5|h5
     ·have:=tY hs h5 vW;omega
     ·have:j=m:=by simp only at hj;omega
      subst this;omega
    ·refine ag [] [] ?_ ?_ ?_ ?_ HO ?_
     all_goals simp
  ·simp  at hk;have e:hi=lo:=by omega
   subst e;apply aC;simp(disch:=omega) ;apply aQ;clear aQ;have cn:=fun z=>Lb z H T
   by_cases hn:hi<l.length
   ·have Sy:=aS (xs:=l) (k:=hi) hn
    by_cases he:l.getD hi 0=t
    ·have iR:t∈l:=by rw[←he];exact tn l hi 0 hn
     have b:(l.getD hi 0==t)=true:=by simpa using he
     refine ae fun K hK=>?_;simp(disch:=omega)[Sy,hn,b,he];apply hK;clear hK K;apply az;simp(disch:=omega) ;simp[iR]
    ·have iR:¬t∈l:=fun hm=>by
      obtain⟨j,hj,e⟩:=iv 0 hm;rcases Nat.lt_trichotomy j hi with h5|h5|h5
      ·have:=h3 j h5;omega
      ·subst h5;exact he e
      ·have:=tY hs h5 hj;have:=h4 hi (Nat.le_refl _) hn;omega
     have b:(l.getD hi 0==t)=false:=by simpa using he
     refine ae fun K hK=>?_;simp(disch:=omega)[Sy,hn,b,he];refine ak (cn _) ?_;simp(disch:=omega) ;apply hK;clear hK K;apply az;simp(disch:=omega) ;simp[iR]
   ·have iR:¬t∈l:=fun hm=>by
     obtain⟨j,hj,e⟩:=iv 0 hm;have:=h3 j (by omega);omega
    refine ae fun K hK=>?_;simp(disch:=omega)[hn];apply hK;clear hK K;apply az;simp(disch:=omega) ;simp[iR]
end Go.Proofs.YtneohapkboaplaaGreat
