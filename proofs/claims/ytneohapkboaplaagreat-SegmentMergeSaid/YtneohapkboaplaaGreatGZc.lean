/- The reference of layers 37 and 39, the parts that Build calls: words and numbers of a field, documents in order. The reference's test of documents (layer 37). The reference's terms (layer 39): the words of the fields of documents, in order, each once; the list is a box that is written to later. The reference's positions and columns (layer 39). The reference's Build (layer 39): the lists of the terms grow in place. The reference's Build (layer 39): the loops. The reference's Build (layer 39): the whole.
   Conditions: as the theorems say. -/
import Derived.Test.YtneohapkboaplaaGreatGBC
import Derived.Test.YtneohapkboaplaaGreatGRA
import Derived.Test.YtneohapkboaplaaGreatAmC
set_option linter.all false
set_option maxRecDepth 100000
set_option maxHeartbeats 8000000
open Nat (zero_le le_refl not_lt_zero lt_or_ge le_trans eq_zero_or_pos lt_of_sub_eq_succ zero_add)
open List (getD_eq_getElem?_getD length_append length_take take_length length_map flatMap_cons flatMap_append append_nil map_map append_assoc map_append getElem?_append_left length_drop filter_append length_filter_le take_append_drop length_cons length_nil flatMap_map)
namespace eJ
open iF Go.Am
def nA:List Zn→Int→List Wd
 |[],_=>[]
 |z::r,f=>if z.f=f then z.ws else nA r f
def zm (ns:List Nm)(f:Int):List Int:=(ns.filter fun x=>x.1==f).map (·.2)
theorem JO (f:Int):∀(zs:List Zn)(i:Nat),i<zs.length→(∀j,j<i→(zs.getD j z0).f≠f)→(zs.getD i z0).f=f→nA zs f=(zs.getD i z0).ws
 |[],i,h,_,_=>absurd h (not_lt_zero _)
 |z::r,0,_,_,h=>by
  have h:z.f=f:=h;unfold nA;rw[if_pos h];rfl
 |z::r,i+1,hi,h,h2=>by
  have h0:z.f≠f:=h 0 (by omega);unfold nA;rw[if_neg h0];exact JO f r i (by simpa using hi) (fun j hj=>h (j+1) (by omega)) h2
theorem Ai (f:Int):∀(zs:List Zn),(∀j,j<zs.length→(zs.getD j z0).f≠f)→nA zs f=[]
 |[],_=>rfl
 |z::r,h=>by
  have h0:z.f≠f:=h 0 (by simp);unfold nA;rw[if_neg h0];exact Ai f r fun j hj=>h (j+1) (by simpa using hj)
theorem KY (ns:List Nm)(f:Int)(i:Nat)(h:i<ns.length):zm (ns.take (i+1)) f=zm (ns.take i) f++(if (ns.getD i n0).1=f then [(ns.getD i n0).2] else []):=by
 unfold zm;rw[bf ns i n0 h,filter_append,map_append]
 congr 1
 rw[List.filter_cons]
 by_cases h1:(ns.getD i n0).1=f
 ·rw[if_pos h1,if_pos (by simpa using h1)];rfl
 ·rw[if_neg h1,if_neg (by simpa using h1)];rfl
theorem Fe (x:Dc):∀(d:List Dc)(n:Nat),n≤d.length→(∀j,j<n→(d.getD j d0).id≤x.id)→(n<d.length→¬(d.getD n d0).id≤x.id)→nq x d=d.take n++x::d.drop n
 |[],n,h,_,_=>by
  have:n=0:=by simpa using h
  subst this;rfl
 |y::r,0,_,_,h=>by
  have:=h (by simp);have h1:¬y.id≤x.id:=this;rw[nq,if_neg h1];rfl
 |y::r,n+1,h0,h1,h2=>by
  have hy:y.id≤x.id:=h1 0 (by omega);rw[nq,if_pos hy,Fe x r n (by simpa using h0) (fun j hj=>h1 (j+1) (by omega)) (fun hn=>h2 (by simpa using hn))];rfl
theorem Dt (l:List Dc)(x:Dc):dU (l++[x])=nq x (dU l):=by simp[dU]
theorem lR (l:List Dc):(dU l).length=l.length:=(gj l).perm.length_eq
theorem Fb (x:Nm):∀(d:List Nm)(n:Nat),n≤d.length→(∀j,j<n→cP (d.getD j n0) x=true)→(n<d.length→cP (d.getD n n0) x=false)→lO x d=d.take n++x::d.drop n
 |[],n,h,_,_=>by
  have:n=0:=by simpa using h
  subst this;rfl
 |y::r,0,_,_,h=>by
  have h1:cP y x=false:=h (by simp);rw[lO,if_neg (by simp[h1])];rfl
 |y::r,n+1,h0,h1,h2=>by
  have hy:cP y x=true:=h1 0 (by omega);rw[lO,if_pos hy,Fb x r n (by simpa using h0) (fun j hj=>h1 (j+1) (by omega)) (fun hn=>h2 (by simpa using hn))];rfl
theorem B4 (l:List Nm)(x:Nm):di (l++[x])=lO x (di l):=by simp[di]
theorem eZ (l:List Nm):(di l).Perm l:=by
 rw[xD];exact List.mergeSort_perm _ _
end eJ
namespace Go.Proofs.YtneohapkboaplaaGreat
open Go Go.Am iF eJ
attribute [-simp] getD_eq_getElem?_getD in
theorem Db (d:Dc)(hs:wa d)(Iy:∀z∈d.zs,z.ws.length≤1000000)(f:Int)(H:List aA)(T:ar):aq Tryz.prog 30 [.agg (fw d),.int .i64 f] H T (Is (.sl (nA d.zs f).length (cJ (nA d.zs f)) .none) H T):=by
 refine aq.cH ?_ (by simp);have hY:maxLen≤9223372036854775807:=by decide
 obtain⟨id,zs,ns⟩:=d;obtain⟨hz,hw,hn⟩:=hs;simp only at hz hw hn Iy ⊢;have Ep:=le_trans hz hY;refine aj 6 [] Tryz.ntmps30 Tryz.func30 rfl (fun _ _=>Tryz.call30 _ _) (by simp) (fun HO=>?_);apply ae;intro K h;simp(disch:=omega);apply h;clear h K;have eX:bC (H++[.cells (fw ⟨id,zs,ns⟩)]) T:=HO.snoc (by simp);refine af fun K1 aQ=>?_;apply ae;intro K h;simp(disch:=omega);apply h;clear h K;apply ah;refine aG (X:=Nat) (fun i=>⟨[(1,.int .i64 f),(2,.ptr H.length 0),(5,.int .i64 (i:Nat))],H++[.cells (fw ⟨id,zs,ns⟩)],T⟩)
  (fun i=>i≤zs.length∧∀j,j<i→(zs.getD j z0).f≠f) (fun i=>zs.length-i) 0 ?_ ?_ ?_
 ·exact⟨zero_le _,fun j hj=>absurd hj (not_lt_zero _)⟩
 ·refine ag [] [] ?_ ?_ ?_ ?_ eX ?_
  all_goals simp
 ·rintro i ⟨g1,g2⟩;refine af fun K2 aW=>?_;apply ae;intro K h;simp(disch:=omega);apply h;clear h K;refine aN rfl (fun hk=>?_) (fun hk=>?_)
  ·simp  at hk;obtain⟨a1,a2⟩:=ET zs i hk;have ua:=Iy _ (aR zs i z0 hk);have ji:=JO f zs i hk g2;have iK:(zs.getD i z0).f≠f→∀j,j<i+1→(zs.getD j z0).f≠f:=fun h j hj=>by
    rcases lt_or_ge j i with h1|h1
    ·exact g2 j h1
    ·have:j=i:=by omega
     subst this;exact h
   generalize zs.getD i z0=z at *;obtain⟨zf,ws⟩:=z;simp only at a1 a2 ua ji iK;apply ai;simp(disch:=omega) ;apply aW;clear aW;refine af fun K3 bz=>?_;apply ah
   by_cases h1:zf=f
   ·have b1:(zf==f)=true:=by simpa using h1
    have hp:=ji h1;refine ae fun K hK=>?_;simp(disch:=omega)[a1,a2,fm,hk,b1,h1];apply hK;clear hK K;apply aF rfl;have Tq:(0+ws.length)*24≤140737488355328:=by omega
    have ab9:0+ws.length≤9223372036854775807:=by omega
    refine ae fun K hK=>?_;simp(disch:=omega)[a1,a2,fm,hk,dV,dR];apply hK;clear hK K;apply az;simp(disch:=omega) ;rw[hp];exact⟨rfl,rfl⟩
   ·have b1:(zf==f)=false:=by simpa using h1
    refine ae fun K hK=>?_;simp(disch:=omega)[a1,a2,fm,hk,b1,h1];apply hK;clear hK K;apply aD rfl;apply ai;simp(disch:=omega) ;apply bz;clear bz;refine au fun K hK=>?_;simp(disch:=omega) ;apply hK;clear hK K;refine⟨i+1,⟨by show i+1≤_;omega,iK h1⟩,by show zs.length-(i+1)<zs.length-i;omega,?_⟩;refine ag [] [] ?_ ?_ ?_ ?_ eX ?_
    all_goals simp
  ·simp  at hk;have hn:=Ai f zs fun j hj=>g2 j (by omega);apply aC;simp(disch:=omega) ;apply aQ;clear aQ;apply ae;intro K h;simp(disch:=omega);apply h;clear h K;apply az;simp(disch:=omega) ;rw[hn];exact⟨rfl,rfl⟩
attribute [-simp] getD_eq_getElem?_getD in
theorem Hp (d:Dc)(hs:wa d)(hn6:d.ns.length≤1000000)(f:Int)(H:List aA)(T:ar):aq Tryz.prog 31 [.agg (fw d),.int .i64 f] H T (Is (.sl (zm d.ns f).length (ints (zm d.ns f)) .none) H T):=by
 refine aq.cH ?_ (by simp);obtain⟨id,zs,ns⟩:=d;simp only at hn6 ⊢;refine aj 7 [] Tryz.ntmps31 Tryz.func31 rfl (fun _ _=>Tryz.call31 _ _) (by simp) (fun HO=>?_);apply ae;intro K h;simp(disch:=omega);apply h;clear h K;have eX:bC (H++[.cells (fw ⟨id,zs,ns⟩)]) T:=HO.snoc (by simp);apply ae;intro K h;simp(disch:=omega);apply h;clear h K;refine af fun K1 aQ=>?_;apply ae;intro K h;simp(disch:=omega);apply h;clear h K;apply ah;refine lF 5 0 1 [] (by omega) (by simp) ?_;refine aG (X:=Nat) (fun i=>⟨[(1,.int .i64 f),(2,.ptr H.length 0),(5,.sl (zm (ns.take i) f).length (ints (zm (ns.take i) f)) (.own T.length)),(6,.int .i64 (i:Nat))],H++[.cells (fw ⟨id,zs,ns⟩)],T++[((zm (ns.take i) f).length,1)]⟩)
  (fun i=>i≤ns.length) (fun i=>ns.length-i) 0 ?_ ?_ ?_
 ·exact zero_le _
 ·refine ag [] [] ?_ ?_ ?_ ?_ (eX.fQ (by simp)) ?_
  all_goals simp[zm]
 ·intro i g1;refine af fun K2 aW=>?_;apply ae;intro K h;simp(disch:=omega);apply h;clear h K;refine aN rfl (fun hk=>?_) (fun hk=>?_)
  ·simp  at hk;obtain⟨a1,a2⟩:=E0 ns i hk;have eN:=KY ns f i hk;have wG:(zm (ns.take i) f).length≤1000000:=by
    unfold zm;rw[length_map];exact le_trans (length_filter_le _ _) (by rw[length_take];omega)
   generalize zm (ns.take i) f=out at *;generalize ns.getD i n0=x at *;obtain⟨xf,xn⟩:=x;simp only at a1 a2 eN;apply ai;simp(disch:=omega) ;apply aW;clear aW;refine af fun K3 bz=>?_;apply ah
   by_cases h1:xf=f
   ·have b1:(xf==f)=true:=by simpa using h1
    rw[if_pos h1] at eN;refine ae fun K hK=>?_;simp(disch:=omega)[a1,a2,bG,hk,b1,h1];apply hK;clear hK K;apply aF rfl;refine au fun K hK=>?_;simp(disch:=omega)[a1,a2,bG,hk,cX];apply hK;clear hK K;apply bz;clear bz;refine au fun K hK=>?_;simp(disch:=omega) ;apply hK;clear hK K;refine⟨i+1,by show i+1≤_;omega,by show ns.length-(i+1)<ns.length-i;omega,?_⟩;refine ag [] [] ?_ ?_ ?_ ?_ (eX.fQ (by simp)) ?_
    all_goals simp[eN]
   ·have b1:(xf==f)=false:=by simpa using h1
    rw[if_neg h1,append_nil] at eN;refine ae fun K hK=>?_;simp(disch:=omega)[a1,a2,bG,hk,b1,h1];apply hK;clear hK K;apply aD rfl;apply ai;simp(disch:=omega) ;apply bz;clear bz;refine au fun K hK=>?_;simp(disch:=omega) ;apply hK;clear hK K;refine⟨i+1,by show i+1≤_;omega,by show ns.length-(i+1)<ns.length-i;omega,?_⟩;refine ag [] [] ?_ ?_ ?_ ?_ (eX.fQ (by simp)) ?_
    all_goals simp[eN]
  ·simp  at hk;have tJ:i=ns.length:=by omega
   subst tJ;rw[take_length];apply aC;simp(disch:=omega) ;apply aQ;clear aQ;apply ae;intro K h;simp(disch:=omega);apply h;clear h K;apply az;simp(disch:=omega) 
attribute [-simp] getD_eq_getElem?_getD in
theorem BM (l:List Dc)(hl:l.length≤1000000)(H:List aA)(T:ar)(tg:Tag):aq Tryz.prog 42 [.sl l.length (aM l) tg] H T (Is (.sl (dU l).length (aM (dU l)) .none) H T):=by
 refine aq.cD ?_;refine aq.cH ?_ (by simp);refine aj 6 [] Tryz.ntmps42 Tryz.func42 rfl (fun _ _=>Tryz.call42 _ _) (by simp) (fun HO=>?_);apply ae;intro K h;simp(disch:=omega);apply h;clear h K;apply ae;intro K h;simp(disch:=omega);apply h;clear h K;refine af fun K1 aQ=>?_;apply ae;intro K h;simp(disch:=omega);apply h;clear h K;apply ah;refine aG (X:=Nat) (fun k=>⟨[(0,.sl l.length (aM l) .none),(3,.sl (dU (l.take k)).length (aM (dU (l.take k))) .none),(4,.int .i64 (k:Nat))],H,T⟩)
  (fun k=>k≤l.length) (fun k=>l.length-k) 0 ?_ ?_ ?_
 ·exact zero_le _
 ·refine ag [] [] ?_ ?_ ?_ ?_ HO ?_
  all_goals simp[dU,kC]
 ·intro k g1;refine af fun K2 aW=>?_;apply ae;intro K h;simp(disch:=omega);apply h;clear h K;refine aN rfl (fun hk=>?_) (fun hk=>?_)
  ·simp  at hk;have fP:=(jc l k hk).1;have bA:=iz l k hk;have kL:dU (l.take (k+1))=nq (l.getD k d0) (dU (l.take k)):=by rw[bf l k d0 hk];exact Dt _ _
   have lN:(dU (l.take k)).length≤1000000:=by rw[lR,length_take];omega
   generalize dU (l.take k)=d at *;generalize l.getD k d0=x at *;apply ai;simp(disch:=omega) ;apply aW;clear aW;refine af fun K3 bz=>?_;apply ah;apply ae;intro K h;simp(disch:=omega);apply h;clear h K;refine af fun K5 gC=>?_;apply ah;refine aG (X:=Nat) (fun n=>⟨[(0,.sl l.length (aM l) .none),(3,.sl d.length (aM d) .none),(4,.int .i64 (k:Nat)),(5,.int .i64 (n:Nat))],H,T⟩)
    (fun n=>n≤d.length∧∀j,j<n→(d.getD j d0).id≤x.id) (fun n=>d.length-n) 0 ?_ ?_ ?_
   ·exact⟨zero_le _,fun j hj=>absurd hj (not_lt_zero _)⟩
   ·refine ag [] [] ?_ ?_ ?_ ?_ HO ?_
    all_goals simp
   ·rintro n ⟨zp,wF⟩;have go:(n<d.length→¬(d.getD n d0).id≤x.id)→∀e,bt H.length T.length e [(0,.sl l.length (aM l) .none),(3,.sl d.length (aM d) .none),(4,.int .i64 (k:Nat)),(5,.int .i64 (n:Nat))]→K5 ⟨e,H,T⟩:=by
     intro sY e he;have uk:=Fe x d n zp wF sY;refine gC _ (aH ⟨[(0,.sl l.length (aM l) .none),(3,.sl d.length (aM d) .none),(4,.int .i64 (k:Nat)),(5,.int .i64 (n:Nat))],H,T⟩ (ag [] [] (by simp) (by simp) (by simp) (by simp) HO (by simpa using he)) ?_);have ht:=N6 d n;have oH:=Ia d n;have aZ:(aM (d.take n)).length=n*3:=by rw[bD,length_take];omega
     have Oz:(aM (d.drop n)).length=(d.length-n)*3:=by rw[bD,length_drop]
     have eN:(aM (d.drop n)).take ((d.length-n)*3)=aM (d.drop n):=by rw[←Oz,take_length]
     have tt:aM (d.take n)++.int .i64 x.id::.sl x.zs.length (dS x.zs) .none::.sl x.ns.length (aU x.ns) .none::aM (d.drop n)=aM (nq x d):=by rw[uk];simp[aM]
     have hlen:n+1+(d.length-n)=(nq x d).length:=by rw[uk];simp;omega
     refine bZ [4,10,14] [0,0,0,0,0,0,0,0,0,0,1,0,0,0,2,3] [[],[],[]] al (by kernel_rfl) (by kernel_rfl) fun K hK=>?_;simp(disch:=omega)[dR,bD,ht,oH,aZ,Oz,eN,fP,bA,hk];rw[tt,hlen];apply hK;clear hK K;apply bz;clear bz;refine au fun K hK=>?_;simp(disch:=omega) ;apply hK;clear hK K;refine⟨k+1,by show k+1≤_;omega,by show l.length-(k+1)<l.length-k;omega,?_⟩;simp only[kL];refine ag [] [((nq x d).length*3,3)] ?_ ?_ ?_ ?_ HO ?_
     all_goals simp
    refine af fun K6 iH=>?_
    by_cases sY:n<d.length
    ·have TC:=(jc d n sY).1;have eM:(d.getD n d0).id≤x.id→∀j,j<n+1→(d.getD j d0).id≤x.id:=fun h j hj=>by
      rcases lt_or_ge j n with h3|h3
      ·exact wF j h3
      ·have:j=n:=by omega
       subst this;exact h
     generalize d.getD n d0=y at *;have b4:decide ((n:Int)<d.length)=true:=decide_eq_true (by omega)
     by_cases ha:y.id≤x.id
     ·have b5:decide (y.id≤x.id)=true:=decide_eq_true ha;refine aI [] [] [] al (by kernel_rfl) (by kernel_rfl) fun K hK=>?_;simp(disch:=omega)[b4,sY,TC,bD,fP,hk,b5,ha];apply hK;clear hK K;apply aF rfl;apply ai;simp(disch:=omega) ;apply iH;clear iH;apply ah;refine au fun K hK=>?_;simp(disch:=omega) ;apply hK;clear hK K;refine⟨n+1,⟨by show n+1≤_;omega,eM ha⟩,by show d.length-(n+1)<d.length-n;omega,?_⟩;refine ag [] [] ?_ ?_ ?_ ?_ HO ?_
      all_goals simp
     ·have b5:decide (y.id≤x.id)=false:=decide_eq_false ha;refine aI [] [] [] al (by kernel_rfl) (by kernel_rfl) fun K hK=>?_;simp(disch:=omega)[b4,sY,TC,bD,fP,hk,b5,ha];apply hK;clear hK K;apply aD rfl;apply aC;simp(disch:=omega) ;refine go (fun _=>ha) _ ?_;simp
    ·have b4:decide ((n:Int)<d.length)=false:=decide_eq_false (by omega);refine aI [] [] [] al (by kernel_rfl) (by kernel_rfl) fun K hK=>?_;simp(disch:=omega)[b4,sY];apply hK;clear hK K;apply aD rfl;apply aC;simp(disch:=omega) ;refine go (fun h=>absurd h sY) _ ?_;simp
  ·simp  at hk;have e:k=l.length:=by omega
   subst e;rw[take_length];apply aC;simp(disch:=omega) ;apply aQ;clear aQ;apply ae;intro K h;simp(disch:=omega);apply h;clear h K;apply az;simp(disch:=omega) 
attribute [-simp] getD_eq_getElem?_getD in
theorem DL (x y:Nm)(H:List aA)(T:ar):aq Tryz.prog 146 [.agg [.int .i64 x.1,.int .i64 x.2],.agg [.int .i64 y.1,.int .i64 y.2]] H T (Is (.bool (cP x y)) H T):=by
 refine aq.cH ?_ (by simp);generalize hq:cP x y=q;unfold cP at hq;obtain⟨x1,x2⟩:=x;obtain⟨y1,y2⟩:=y;simp only at hq;refine aj 5 [] Tryz.ntmps146 Tryz.func146 rfl (fun _ _=>Tryz.call146 _ _) (by simp) (fun HO=>?_);apply ae;intro K h;simp(disch:=omega);apply h;clear h K
 by_cases h1:x1<y1
 ·have b1:decide (x1<y1)=true:=decide_eq_true h1;rw[b1] at hq;refine ae fun K hK=>?_;simp(disch:=omega)[b1,h1];apply hK;clear hK K;apply az;simp(disch:=omega) ;rw[←hq];rfl
 ·have b1:decide (x1<y1)=false:=decide_eq_false h1
  by_cases h2:x1=y1
  ·have b2:(x1==y1)=true:=by simpa using h2
   rw[b1,decide_eq_true h2,Bool.true_and,Bool.false_or] at hq;refine ae fun K hK=>?_;simp(disch:=omega)[b1,h1,b2,h2];apply hK;clear hK K;apply az;simp(disch:=omega) ;exact hq
  ·have b2:(x1==y1)=false:=by simpa using h2
   rw[b1,decide_eq_false h2,Bool.false_and,Bool.false_or] at hq;refine ae fun K hK=>?_;simp(disch:=omega)[b1,h1,b2,h2];apply hK;clear hK K;apply az;simp(disch:=omega) ;exact hq.symm
end Go.Proofs.YtneohapkboaplaaGreat
namespace eJ
theorem AX (ws:List Wd):∀k,(∀j,j<k→nm ws j=true)→-1≤gF ws k
 |0,_=>by simp[gF]
 |k+1,h=>by
  have h1:=AX ws k fun j hj=>h j (by omega);have h2:=h k (by omega);unfold nm at h2;simp only[Bool.and_eq_true,decide_eq_true_eq] at h2;have h3:=h2.2.1;have h4:gF ws (k+1)=(ws.getD k w0).2:=by simp[gF]
  rw[h4];omega
theorem AU (zs:List Zn):∀k,(∀j,j<k→kO zs j=true)→0≤gy zs k
 |0,_=>by simp[gy]
 |k+1,h=>by
  have h1:=AU zs k fun j hj=>h j (by omega);have h2:=h k (by omega);unfold kO at h2;simp only[Bool.and_eq_true,decide_eq_true_eq] at h2;have h3:=h2.1.1;have h4:gy zs (k+1)=(zs.getD k z0).f:=by simp[gy]
  rw[h4];omega
end eJ
namespace Go.Proofs.YtneohapkboaplaaGreat
open Go Go.Am iF eJ
attribute [-simp] getD_eq_getElem?_getD in
theorem Df (id:Int)(zs:List Zn)(ns:List Nm)(f:Int)(ws:List Wd)(i:Nat)(ua:ws.length≤maxLen)(Er:∀w∈ws,w.1.length≤maxLen)(H:List aA)(T:ar)(dy:bC (H++[.cells (fw ⟨id,zs,ns⟩),.cells (mX ⟨f,ws⟩)]) T)
  (Q:Exit→St→Prop) (bad:∀k,k<ws.length→nm ws k=false→∀(e:Env)(rH:List aA)(rT:ar),bF e 2=.bool false→Q .ret ⟨e,H++rH,T++rT⟩)
  (go:(∀k,k<ws.length→nm ws k=true)→∀e:Env,bt (H.length+2) T.length e [(1,.ptr H.length 0),(3,.int .i64 (i:Nat))]→Q .normal ⟨e,H++[.cells (fw ⟨id,zs,ns⟩),.cells (mX ⟨f,ws⟩)],T⟩) :
  AW ⟨Tryz.prog,146,9,H.length,T.length,[]⟩ (du [1,0,1,0,0,1,0,0,1,1] (Tryz.f66.body.getD .skip)) Q ⟨[(1,.ptr H.length 0),(3,.int .i64 (i:Nat)),(4,.ptr (H.length+1) 0)],H++[.cells (fw ⟨id,zs,ns⟩),.cells (mX ⟨f,ws⟩)],T⟩:=by
 conv=>arg 2;whnf
 have hY:maxLen≤9223372036854775807:=by decide
 have Tq:=le_trans ua hY;apply ae;intro K h;simp(disch:=omega);apply h;clear h K;apply ah;refine aG (X:=Nat) (fun k=>⟨[(1,.ptr H.length 0),(3,.int .i64 (i:Nat)),(4,.ptr (H.length+1) 0),(5,.int .i64 (k:Nat))],H++[.cells (fw ⟨id,zs,ns⟩),.cells (mX ⟨f,ws⟩)],T⟩)
  (fun k=>k≤ws.length∧∀j,j<k→nm ws j=true) (fun k=>ws.length-k) 0 ?_ ?_ ?_
 ·exact⟨zero_le _,fun j hj=>absurd hj (not_lt_zero _)⟩
 ·refine ag [] [] ?_ ?_ ?_ ?_ dy ?_
  all_goals simp
 ·rintro m ⟨m1,m2⟩;refine af fun K5 gC=>?_;apply ae;intro K h;simp(disch:=omega);apply h;clear h K;refine aN rfl (fun dg=>?_) (fun dg=>?_)
  ·simp  at dg;have pL:=uO ws m dg;have jE:=AX ws m m2;have er:nm ws m=(okW (ws.getD m w0).1&&(decide (gF ws m<(ws.getD m w0).2)&&decide ((ws.getD m w0).2≤1000000))):=rfl;have cL:0<m→gF ws m=(ws.getD (m-1) w0).2:=fun h=>by unfold gF;rw[if_neg (by omega)]
   have C5:m=0→gF ws m=-1:=fun h=>by unfold gF;rw[if_pos h]
   have wI:=fun h=>(tM ws (m-1) h).2;have vT:=Er _ (aR ws m w0 dg);generalize gF ws m=la at *;generalize (ws.getD (m-1) w0).2=py at *;generalize Rm:ws.getD m w0=z at *;obtain⟨x1,x2⟩:=z;simp only at pL wI er vT;apply ai;simp(disch:=omega) ;apply gC;clear gC;refine af fun K6 iH=>?_;apply ah;refine ae fun K hK=>?_;simp(disch:=omega)[pL,dV];apply hK;clear hK K;have nG:bC (H++[.cells (fw ⟨id,zs,ns⟩),.cells (mX ⟨f,ws⟩),.cells [.str x1,.int .i64 x2]]) T:=by
    have:=bC.snoc (vs:=[.str x1,.int .i64 x2]) dy (by simp);simpa using this
   have cw:=Ak x1 vT (H++[.cells (fw ⟨id,zs,ns⟩),.cells (mX ⟨f,ws⟩),.cells [.str x1,.int .i64 x2]]) T;refine aI [] [] [] al (by kernel_rfl) (by kernel_rfl) fun K hK=>?_;have gn:∀e b,b=nm ws m→bt (H.length+3) T.length e [(1,.ptr H.length 0),(3,.int .i64 (i:Nat)),(4,.ptr (H.length+1) 0),(5,.int .i64 (m:Nat)),(92,.bool (!b))]→K ⟨e,H++[.cells (fw ⟨id,zs,ns⟩),.cells (mX ⟨f,ws⟩),.cells [.str x1,.int .i64 x2]],T⟩:=by
    intro e b2 iE vM;refine hK _ (aH ⟨[(1,.ptr H.length 0),(3,.int .i64 (i:Nat)),(4,.ptr (H.length+1) 0),(5,.int .i64 (m:Nat)),(92,.bool (!b2))],H++[.cells (fw ⟨id,zs,ns⟩),.cells (mX ⟨f,ws⟩)],T⟩ (ag [.cells [.str x1,.int .i64 x2]] [] (by simp) (by simp) (by simp) (by simp) dy (by simpa using vM)) ?_)
    cases b2 with
    |false=>
     apply aF rfl;apply ae;intro K h;simp(disch:=omega);apply h;clear h K;apply az;rw[←append_nil T];exact bad m dg iE.symm _ _ _ rfl
    |true=>
     apply aD rfl;apply ai;simp(disch:=omega) ;apply iH;clear iH;refine au fun K hK=>?_;simp(disch:=omega) ;apply hK;clear hK K;refine⟨m+1,⟨by show m+1≤_;omega,fun j hj=>?_⟩,by show ws.length-(m+1)<ws.length-m;omega,?_⟩
     ·rcases lt_or_ge j m with h|h
      ·exact m2 j h
      ·have:j=m:=by omega
       subst this;exact iE.symm
     ·refine ag [] [] ?_ ?_ ?_ ?_ dy ?_
      all_goals simp
   clear hK
   cases hw:okW x1 with
   |false=>
    rw[hw] at cw er;simp(disch:=omega) ;refine aB (cw) rfl ?_;simp(disch:=omega) ;refine gn _ false (by rw[er];rfl) (by simp)
   |true=>
   rw[hw] at cw er;rw[Bool.true_and] at er
   by_cases v3:x2<0
   ·have w3:decide (x2<0)=true:=decide_eq_true v3;simp(disch:=omega) ;refine aB (cw) rfl ?_;simp(disch:=omega)[w3,v3];refine gn _ false (by rw[er,decide_eq_false (by omega:¬la<x2)];rfl) (by simp)
   have w3:decide (x2<0)=false:=decide_eq_false v3
   by_cases v4:1000000<x2
   ·have w4:decide (1000000<x2)=true:=decide_eq_true v4;simp(disch:=omega) ;refine aB (cw) rfl ?_;simp(disch:=omega)[w3,v3,w4,v4];refine gn _ false (by rw[er,decide_eq_false (by omega:¬x2≤1000000)];simp) (by simp)
   have w4:decide (1000000<x2)=false:=decide_eq_false v4;rw[decide_eq_true (by omega:x2≤1000000),Bool.and_true] at er;rcases eq_zero_or_pos m with h5|h5
   ·have IC:=C5 h5;subst h5;simp(disch:=omega) ;refine aB (cw) rfl ?_;simp(disch:=omega)[w3,v3,w4,v4];refine gn _ true (by rw[er,decide_eq_true (by omega:la<x2)]) (by simp)
   ·have e6:((m:Int)-1)=((m-1:Nat):Int):=by omega
    have b5:decide ((0:Int)<(m:Int))=true:=decide_eq_true (by omega);have nL:=wI (by omega);have IC:=cL h5
    by_cases v5:x2≤py
    ·have w5:decide (x2≤py)=true:=decide_eq_true v5;simp(disch:=omega) ;refine aB (cw) rfl ?_;simp(disch:=omega)[w3,v3,w4,v4,b5,h5,e6,nL,dV,w5,v5];refine gn _ false (by rw[er,decide_eq_false (by omega:¬la<x2)]) (by simp)
    ·have w5:decide (x2≤py)=false:=decide_eq_false v5;simp(disch:=omega) ;refine aB (cw) rfl ?_;simp(disch:=omega)[w3,v3,w4,v4,b5,h5,e6,nL,dV,w5,v5];refine gn _ true (by rw[er,decide_eq_true (by omega:la<x2)]) (by simp)
  ·simp  at dg;apply aC;simp(disch:=omega) ;exact go (fun k h=>m2 k (by omega)) _ (by simp)
attribute [-simp] getD_eq_getElem?_getD in
theorem DN (d:Dc)(hs:wa d)(hz:∀i,i<d.zs.length→kO d.zs i=true)(H:List aA)(T:ar)(HO:bC (H++[.cells (fw d)]) T) :
  AW ⟨Tryz.prog,146,9,H.length,T.length,[]⟩ (du [1,1] (Tryz.f66.body.getD .skip)) (nN Tryz.prog Tryz.f66.results.toList fun r H' T'=>(∃rH,H'=H++rH)∧(∃rT,T'=T++rT)∧(r=.bool (aX d)∨cY r=.bool (aX d))) ⟨[(1,.ptr H.length 0)],H++[.cells (fw d)],T⟩:=by
 conv=>arg 2;whnf
 have hY:maxLen≤9223372036854775807:=by decide
 have M3:=fun i h=>Au (d:=d) (i:=i) h;have pV:=rP (d:=d);have qt:=fun h1 h3=>sC (d:=d) h1 hz h3;obtain⟨id,zs,ns⟩:=d;obtain⟨_,_,hn⟩:=hs;simp only at hn M3 pV qt;have Zq:=le_trans hn hY;generalize hq:aX ⟨id,zs,ns⟩=q at *;refine af fun K1 aQ=>?_;apply ae;intro K h;simp(disch:=omega);apply h;clear h K;apply ah;refine aG (X:=Nat) (fun i=>⟨[(1,.ptr H.length 0),(7,.int .i64 (i:Nat))],H++[.cells (fw ⟨id,zs,ns⟩)],T⟩)
  (fun i=>i≤ns.length∧∀j,j<i→pN ns j=true) (fun i=>ns.length-i) 0 ?_ ?_ ?_
 ·exact⟨zero_le _,fun j hj=>absurd hj (not_lt_zero _)⟩
 ·refine ag [] [] ?_ ?_ ?_ ?_ HO ?_
  all_goals simp
 ·rintro m ⟨m1,m2⟩;refine af fun K5 gC=>?_;apply ae;intro K h;simp(disch:=omega);apply h;clear h K;refine aN rfl (fun dg=>?_) (fun dg=>?_)
  ·simp  at dg;have pL:=eA ns m dg;have er:pN ns m=(uh (ns.getD m n0)&&(decide (m=0)||cP (ns.getD (m-1) n0) (ns.getD m n0))):=rfl;have cn:=fun H T=>DL (ns.getD (m-1) n0) (ns.getD m n0) H T;replace M3:=M3 m dg;generalize cP (ns.getD (m-1) n0) (ns.getD m n0)=cq at *;have wI:=fun h=>eA ns (m-1) h;generalize ns.getD (m-1) n0=y at *;generalize Rm:ns.getD m n0=z at *;obtain⟨x1,x2⟩:=z;obtain⟨y1,y2⟩:=y;simp only at pL wI er;unfold uh at er;simp only at er;apply ai;simp(disch:=omega) ;apply gC;clear gC;refine af fun K6 iH=>?_;apply ah;refine ae fun K hK=>?_;simp(disch:=omega)[pL,bG];apply hK;clear hK K;have c:=cn (H++[.cells (fw ⟨id,zs,ns⟩),.cells [.int .i64 x1,.int .i64 x2]]) T;refine aI [] [] [] al (by kernel_rfl) (by kernel_rfl) fun K hK=>?_;have gn:∀e b,b=pN ns m→bt (H.length+2) T.length e [(1,.ptr H.length 0),(7,.int .i64 (m:Nat)),(137,.bool (!b))]→K ⟨e,H++[.cells (fw ⟨id,zs,ns⟩),.cells [.int .i64 x1,.int .i64 x2]],T⟩:=by
    intro e b2 iE vM;refine hK _ (aH ⟨[(1,.ptr H.length 0),(7,.int .i64 (m:Nat)),(137,.bool (!b2))],H++[.cells (fw ⟨id,zs,ns⟩)],T⟩ (ag [.cells [.int .i64 x1,.int .i64 x2]] [] (by simp) (by simp) (by simp) (by simp) HO (by simpa using vM)) ?_)
    cases b2 with
    |false=>
     apply aF rfl;apply ae;intro K h;simp(disch:=omega);apply h;clear h K;apply az;simp(disch:=omega) ;exact M3 iE.symm
    |true=>
     apply aD rfl;apply ai;simp(disch:=omega) ;apply iH;clear iH;refine au fun K hK=>?_;simp(disch:=omega) ;apply hK;clear hK K;refine⟨m+1,⟨by show m+1≤_;omega,fun j hj=>?_⟩,by show ns.length-(m+1)<ns.length-m;omega,?_⟩
     ·rcases lt_or_ge j m with h|h
      ·exact m2 j h
      ·have:j=m:=by omega
       subst this;exact iE.symm
     ·refine ag [] [] ?_ ?_ ?_ ?_ HO ?_
      all_goals simp
   clear hK
   by_cases v1:x1<5
   ·have w1:decide (x1<5)=true:=decide_eq_true v1;simp(disch:=omega)[w1,v1];refine gn _ false (by rw[er,decide_eq_false (by omega:¬(5≤x1∧x1≤7))];rfl) (by simp)
   have w1:decide (x1<5)=false:=decide_eq_false v1
   by_cases v2:7<x1
   ·have w2:decide (7<x1)=true:=decide_eq_true v2;simp(disch:=omega)[w1,v1,w2,v2];refine gn _ false (by rw[er,decide_eq_false (by omega:¬(5≤x1∧x1≤7))];rfl) (by simp)
   have w2:decide (7<x1)=false:=decide_eq_false v2;rw[decide_eq_true (by omega:5≤x1∧x1≤7),Bool.true_and] at er
   by_cases v3:x2<0
   ·have w3:decide (x2<0)=true:=decide_eq_true v3;simp(disch:=omega)[w1,v1,w2,v2,w3,v3];refine gn _ false (by rw[er,decide_eq_false (by omega:¬(0≤x2∧x2≤1000000000000))];rfl) (by simp)
   have w3:decide (x2<0)=false:=decide_eq_false v3
   by_cases v4:1000000000000<x2
   ·have w4:decide (1000000000000<x2)=true:=decide_eq_true v4;simp(disch:=omega)[w1,v1,w2,v2,w3,v3,w4,v4];refine gn _ false (by rw[er,decide_eq_false (by omega:¬(0≤x2∧x2≤1000000000000))];rfl) (by simp)
   have w4:decide (1000000000000<x2)=false:=decide_eq_false v4;rw[decide_eq_true (by omega:0≤x2∧x2≤1000000000000),Bool.true_and] at er;rcases eq_zero_or_pos m with h5|h5
   ·subst h5;simp(disch:=omega)[w1,v1,w2,v2,w3,v3,w4,v4];refine gn _ true (by rw[er];rfl) (by simp)
   ·have e6:((m:Int)-1)=((m-1:Nat):Int):=by omega
    have b5:decide ((0:Int)<(m:Int))=true:=decide_eq_true (by omega);have nL:=wI (by omega);rw[decide_eq_false (by omega:¬m=0),Bool.false_or] at er;simp(disch:=omega)[w1,v1,w2,v2,w3,v3,w4,v4,b5,h5,e6,nL,bG];refine aB (c) rfl ?_;simp(disch:=omega) ;refine gn _ cq er.symm (by simp)
  ·simp  at dg;apply aC;simp(disch:=omega) ;apply aQ;clear aQ
   by_cases h1:1≤id
   ·have b1:decide (1≤id)=true:=decide_eq_true h1
    by_cases h2:id≤1000000000
    ·have b2:decide (id≤1000000000)=true:=decide_eq_true h2;refine ae fun K hK=>?_;simp(disch:=omega)[b1,h1,b2,h2];apply hK;clear hK K;apply az;simp(disch:=omega) ;exact qt ⟨h1,h2⟩ (fun j hj=>m2 j (by omega))
    ·have b2:decide (id≤1000000000)=false:=decide_eq_false h2;refine ae fun K hK=>?_;simp(disch:=omega)[b1,h1,b2,h2];apply hK;clear hK K;apply az;simp(disch:=omega) ;exact pV (by omega)
   ·have b1:decide (1≤id)=false:=decide_eq_false h1;refine ae fun K hK=>?_;simp(disch:=omega)[b1,h1];apply hK;clear hK K;apply az;simp(disch:=omega) ;exact pV (by omega)
attribute [-simp] getD_eq_getElem?_getD in
theorem BK (d:Dc)(hs:wa d)(H:List aA)(T:ar):aq Tryz.prog 66 [.agg (fw d)] H T (Is (.bool (aX d)) H T):=by
 refine aq.cH ?_ (by simp);have hY:maxLen≤9223372036854775807:=by decide
 have Jr:=fun i h=>ku (d:=d) (i:=i) h;have tail:=fun hz=>DN d hs hz H T;obtain⟨id,zs,ns⟩:=d;obtain⟨hz,hw,hn⟩:=hs;simp only at hz hw hn Jr tail;have Ep:=le_trans hz hY;generalize hq:aX ⟨id,zs,ns⟩=q at *;refine aj 9 [] Tryz.ntmps66 Tryz.func66 rfl (fun _ _=>Tryz.call66 _ _) (by simp) (fun HO=>?_);apply ae;intro K h;simp(disch:=omega);apply h;clear h K;have eX:bC (H++[.cells (fw ⟨id,zs,ns⟩)]) T:=HO.snoc (by simp);replace tail:=fun hz=>tail hz eX;refine af fun K1 aQ=>?_;apply ae;intro K h;simp(disch:=omega);apply h;clear h K;apply ah;refine aG (X:=Nat) (fun i=>⟨[(1,.ptr H.length 0),(3,.int .i64 (i:Nat))],H++[.cells (fw ⟨id,zs,ns⟩)],T⟩)
  (fun i=>i≤zs.length∧∀j,j<i→kO zs j=true) (fun i=>zs.length-i) 0 ?_ ?_ ?_
 ·exact⟨zero_le _,fun j hj=>absurd hj (not_lt_zero _)⟩
 ·refine ag [] [] ?_ ?_ ?_ ?_ eX ?_
  all_goals simp
 ·rintro i ⟨g1,g2⟩;refine af fun K2 aW=>?_;apply ae;intro K h;simp(disch:=omega);apply h;clear h K;refine aN rfl (fun hk=>?_) (fun hk=>?_)
  ·simp  at hk;have bA:=qQ zs i hk;obtain⟨ua,Er⟩:=hw _ (aR zs i z0 hk);have jE:=AU zs i g2;have tB:=AO (zs:=zs) (i:=i);have PI:=fun k=>JT (zs:=zs) (i:=i) (k:=k);have Ad:=xo (zs:=zs) (i:=i);replace Jr:=Jr i hk;have cL:0<i→gy zs i=(zs.getD (i-1) z0).f:=fun h=>by unfold gy;rw[if_neg (by omega)]
   have C5:i=0→gy zs i=0:=fun h=>by unfold gy;rw[if_pos h]
   have fP:=fun h=>(ET zs (i-1) h).1;generalize gy zs i=la at *;generalize (zs.getD (i-1) z0).f=fp at *;generalize zs.getD i z0=z at *;obtain⟨f,ws⟩:=z;simp only at bA ua Er tB PI Ad;have Tq:=le_trans ua hY;apply ai;simp(disch:=omega) ;apply aW;clear aW;refine af fun K3 bz=>?_;apply ah;refine ae fun K hK=>?_;simp(disch:=omega)[bA,fm];apply hK;clear hK K;have dy:bC (H++[.cells (fw ⟨id,zs,ns⟩),.cells (mX ⟨f,ws⟩)]) T:=by
    have:=bC.snoc (vs:=mX ⟨f,ws⟩) eX (by simp);simpa using this
   refine af fun K4 eV=>?_;refine aI [] [] [] al (by kernel_rfl) (by kernel_rfl) fun K hK=>?_;have key:∀e b,(b=true→la<f∧f≤4∧ws.length≠0)→(b=false→kO zs i=false)→bt (H.length+2) T.length e [(1,.ptr H.length 0),(3,.int .i64 (i:Nat)),(4,.ptr (H.length+1) 0),(50,.bool (!b))]→K ⟨e,H++[.cells (fw ⟨id,zs,ns⟩),.cells (mX ⟨f,ws⟩)],T⟩:=by
    intro e b hb vN he;refine hK _ (aH ⟨[(1,.ptr H.length 0),(3,.int .i64 (i:Nat)),(4,.ptr (H.length+1) 0),(50,.bool (!b))],H++[.cells (fw ⟨id,zs,ns⟩),.cells (mX ⟨f,ws⟩)],T⟩ (ag [] [] (by simp) (by simp) (by simp) (by simp) dy (by simpa using he)) ?_)
    cases b with
    |false=>
     apply aF rfl;apply ae;intro K h;simp(disch:=omega);apply h;clear h K;apply az;simp(disch:=omega) ;exact Jr (vN rfl)
    |true=>
    obtain⟨b1,b2,b3⟩:=hb rfl;apply aD rfl;apply ai;simp(disch:=omega) ;apply eV;clear eV;refine aH ⟨[(1,.ptr H.length 0),(3,.int .i64 (i:Nat)),(4,.ptr (H.length+1) 0)],H++[.cells (fw ⟨id,zs,ns⟩),.cells (mX ⟨f,ws⟩)],T⟩ (ag [] [] (by simp) (by simp) (by simp) (by simp) dy (by simp)) ?_;refine Df id zs ns f ws i ua Er H T dy _ (fun k qm Mz e rH rT he=>?_) fun hg e he=>?_
    ·show nN Tryz.prog Tryz.f66.results.toList (fun r H' T'=>(∃rH,H'=H++rH)∧(∃rT,T'=T++rT)∧(r=.bool q∨cY r=.bool q)) .ret _;simp[he,Jr (PI k qm Mz)]
    ·refine bz _ (aH ⟨[(1,.ptr H.length 0),(3,.int .i64 (i:Nat))],H++[.cells (fw ⟨id,zs,ns⟩)],T⟩ (ag [.cells (mX ⟨f,ws⟩)] [] (by simp) (by simp) (by simp) (by simp) eX (by simpa using he)) ?_);refine au fun K hK=>?_;simp(disch:=omega) ;apply hK;clear hK K;refine⟨i+1,⟨by show i+1≤_;omega,fun j hj=>?_⟩,by show zs.length-(i+1)<zs.length-i;omega,?_⟩
     ·rcases lt_or_ge j i with h|h
      ·exact g2 j h
      ·have:j=i:=by omega
       subst this;exact Ad b1 b2 b3 hg
     ·refine ag [] [] ?_ ?_ ?_ ?_ eX ?_
      all_goals simp
   clear hK
   by_cases v1:f<1
   ·have w1:decide (f<1)=true:=decide_eq_true v1;simp(disch:=omega)[w1,v1];refine key _ false (fun h=>by cases h) (fun _=>tB (by omega)) (by simp)
   have w1:decide (f<1)=false:=decide_eq_false v1
   by_cases v2:4<f
   ·have w2:decide (4<f)=true:=decide_eq_true v2;simp(disch:=omega)[w1,v1,w2,v2];refine key _ false (fun h=>by cases h) (fun _=>tB (by omega)) (by simp)
   have w2:decide (4<f)=false:=decide_eq_false v2
   by_cases v3:ws.length=0
   ·have e3:ws=[]:=List.length_eq_zero_iff.1 v3;subst e3;rcases eq_zero_or_pos i with h5|h5
    ·subst h5;simp(disch:=omega)[w1,v1,w2,v2];refine key _ false (fun h=>by cases h) (fun _=>tB (by simp)) (by simp)
    ·have e6:((i:Int)-1)=((i-1:Nat):Int):=by omega
     have b5:decide ((0:Int)<(i:Int))=true:=decide_eq_true (by omega);have qs:=fP (by omega)
     by_cases v4:f≤fp
     ·have w4:decide (f≤fp)=true:=decide_eq_true v4;simp(disch:=omega)[w1,v1,w2,v2,b5,h5,e6,qs,fm,w4,v4];refine key _ false (fun h=>by cases h) (fun _=>tB (by simp)) (by simp)
     ·have w4:decide (f≤fp)=false:=decide_eq_false v4;simp(disch:=omega)[w1,v1,w2,v2,b5,h5,e6,qs,fm,w4,v4];refine key _ false (fun h=>by cases h) (fun _=>tB (by simp)) (by simp)
   have w3:((ws.length:Int)==0)=false:=beq_eq_false_iff_ne.2 (by omega);have n3:ws≠[]:=fun e=>v3 (by rw[e];rfl);rcases eq_zero_or_pos i with h5|h5
   ·have IC:=C5 h5;subst h5;simp(disch:=omega)[w1,v1,w2,v2,w3,n3];refine key _ true (fun _=>⟨by omega,by omega,v3⟩) (fun h=>by cases h) (by simp)
   ·have e6:((i:Int)-1)=((i-1:Nat):Int):=by omega
    have b5:decide ((0:Int)<(i:Int))=true:=decide_eq_true (by omega);have qs:=fP (by omega);have IC:=cL h5
    by_cases v4:f≤fp
    ·have w4:decide (f≤fp)=true:=decide_eq_true v4;simp(disch:=omega)[w1,v1,w2,v2,w3,n3,b5,h5,e6,qs,fm,w4,v4];refine key _ false (fun h=>by cases h) (fun _=>tB (by omega)) (by simp)
    ·have w4:decide (f≤fp)=false:=decide_eq_false v4;simp(disch:=omega)[w1,v1,w2,v2,w3,n3,b5,h5,e6,qs,fm,w4,v4];refine key _ true (fun _=>⟨by omega,by omega,v3⟩) (fun h=>by cases h) (by simp)
  ·simp  at hk;apply aC;simp(disch:=omega) ;apply aQ;clear aQ;refine aH ⟨[(1,.ptr H.length 0)],H++[.cells (fw ⟨id,zs,ns⟩)],T⟩ (ag [] [] (by simp) (by simp) (by simp) (by simp) eX (by simp)) ?_;exact tail fun j hj=>g2 j (by omega)
end Go.Proofs.YtneohapkboaplaaGreat
namespace eJ
open iF Go.Am
abbrev k0:Ky:=(0,[])
abbrev sU (k:Ky):List AV:=[.int .i64 k.1,.str k.2,.sl 0 [] .full]
def fM (l:List Ky):List AV:=l.flatMap fun k=>[.int .i64 k.1,.str k.2,.sl 0 [] .full]
theorem tT:eC sU 3:=fun _=>rfl
theorem kz (l:List Ky):(fM l).length=l.length*3:=b9 tT l
theorem uY (l:List Ky)(rest:List AV)(i:Nat)(h:i<l.length):((fM l++rest).drop (i*3)).take 3=sU (l.getD i k0):=by
 rw[List.drop_append,List.take_append,show ((fM l).drop (i*3)).take 3=sU (l.getD i k0) from fX tT l i k0 h];rw[show 3-((fM l).drop (i*3)).length=0 by rw[length_drop,kz];omega];simp
theorem NQ (l:List Ky)(i:Nat):(fM l).take (i*3)=fM (l.take i):=lS tT l i
theorem HG (l:List Ky)(i:Nat):(fM l).drop (i*3)=fM (l.drop i):=iX tT l i
theorem Fc (x:Ky):∀(d:List Ky)(n:Nat),n≤d.length→(∀j,j<n→bM (d.getD j k0) x=true)→(n<d.length→bM (d.getD n k0) x=false)→
  (n<d.length→bM x (d.getD n k0)=false→jJ x d=d)∧((n<d.length→bM x (d.getD n k0)=true)→jJ x d=d.take n++x::d.drop n)
 |[],n,h,_,_=>by
  have:n=0:=by simpa using h
  subst this;exact⟨fun h=>absurd h (not_lt_zero _),fun _=>rfl⟩
 |y::r,0,_,_,h=>by
  have h1:bM y x=false:=h (by simp);refine⟨fun _ h2=>?_,fun h2=>?_⟩
  ·have h2:bM x y=false:=h2;rw[jJ,if_neg (by simp[h1]),if_neg (by simp[h2])]
  ·have h2:bM x y=true:=h2 (by simp);rw[jJ,if_neg (by simp[h1]),if_pos h2];rfl
 |y::r,n+1,h0,h1,h2=>by
  have hy:bM y x=true:=h1 0 (by omega);obtain⟨a,b⟩:=Fc x r n (by simpa using h0) (fun j hj=>h1 (j+1) (by omega)) (fun hn=>h2 (by simpa using hn));refine⟨fun h3 h4=>?_,fun h3=>?_⟩
  ·rw[jJ,if_pos hy,a (by simpa using h3) h4]
  ·rw[jJ,if_pos hy,b fun h4=>h3 (by simpa using h4)];rfl
theorem A3 (x:Ky):∀d:List Ky,(jJ x d).length≤d.length+1
 |[]=>by simp[jJ]
 |y::r=>by
  have:=A3 x r;unfold jJ
  split
  ·simp;omega
  ·split<;>simp
def dq (a:List Ky)(l:List Ky):List Ky:=l.foldl (fun a k=>jJ k a) a
theorem mF (l:List Ky):∀a:List Ky,(dq a l).length≤a.length+l.length:=by
 unfold dq
 induction l with
 |nil=>intro a;simp
 |cons x r ih=>intro a;rw[List.foldl_cons];have:=ih (jJ x a);have:=A3 x a;simp;omega
theorem qh (a l m:List Ky):dq a (l++m)=dq (dq a l) m:=by unfold dq;rw[List.foldl_append]
def eK (z:Zn):List Ky:=z.ws.map fun w=>(z.f,w.1)
def dF (d:Dc):List Ky:=d.zs.flatMap eK
theorem H3 (zs:List Zn):(et zs).map (·.1)=zs.flatMap eK:=by
 unfold et nh eK;rw[List.map_flatMap];simp[map_map,Function.comp_def]
theorem xy (L:List Dc):dE L=dq [] (L.flatMap dF):=by
 unfold dE dq dF
 congr 1
 congr 1
 funext d
 exact H3 d.zs
def TR (h0:Nat)(J:List aA)(ks:List Ky)(tv:AV):Prop:=
 (ks=[]∧tv=.sl 0 [] .full)∨(∃i rest,tv=.bV i 0 ks.length∧h0≤i∧J[i]?=some (.cells (fM ks++rest))∧0<ks.length)
theorem TR.app {h0:Nat}{J:List aA}{ks:List Ky}{tv:AV}(h:TR h0 J ks tv)(G:List aA):TR h0 (J++G) ks tv:=by
 rcases h with h|⟨i,rest,h1,h2,h3,h4⟩
 ·exact .inl h
 ·exact .inr ⟨i,rest,h1,h2,by rw[getElem?_append_left (List.getElem?_eq_some_iff.1 h3).1];exact h3,h4⟩
end eJ
namespace Go.Proofs.YtneohapkboaplaaGreat
open Go Go.Am iF eJ
noncomputable def uv:List Oper:=match du [1,1,0,1,0,0,1,0,0,1,0,0,1,0,0,1,1,0,0,1,0,0,1,1,1,1,0] (Tryz.f67.body.getD .skip) with
 |.region _ ops _=>ops.toList
 |_=>[]
theorem yZ {K:St→Prop}{P:List aA→ar→Prop}{nb tb:Nat}(f:Int)(w:Bs)(n m:Nat)(A B:List AV)(x1 x2:AV)(e:Env)(J:List aA)(U:ar)(hn:n≤1000000)(hm:m≤1000000)(hA:A.length=n*3)(hB:B.length=m*3)
  (ZP:bF e 76=.sl 0 [] .full) (ZO:bF e 79=x1) (ZN:bF e 82=.sl 1 (sU (f,w)) .full) (h86:bF e 86=x2) (IA:fN J 3 x1=some (n,A)) (CB:∀J',eT J J'→fN J' 3 x2=some (m,B)) (hP:∀J',eT J J'→P J' U)
  (k:∀(e':Env)(J':List aA)(i' jO:Nat)(kh:List AV),eT J J'→J.length≤i'→J'[i']?=some (.cells (A++sU (f,w)++B++kh))→bF e' 3=.bJ i' (n+1+m) jO→(∀t,t<80→t≠3→bF e' t=bF e t)→K ⟨e',J',U⟩) :
  zQ ⟨Tryz.prog,89,10,nb,tb,[100080,100083]⟩ K P ([4,7,11,12].map fun i=>uv.getD i default) e J U:=by
 show zQ _ K P [uv.getD 4 default,uv.getD 7 default,uv.getD 11 default,uv.getD 12 default] e J U;have RF:eT J J:=⟨[],by simp⟩
 have tail:∀(e7:Env)(J7:List aA)(i7 Jq:Nat)(EF:List AV),eT J J7→J.length≤i7→J7[i7]?=some (.cells ((A++sU (f,w))++EF))→((A++sU (f,w))++EF).length=Jq*3→bF e7 83=.bJ i7 (n+1) Jq→bF e7 86=x2→
   (∀t,t<80→bF e7 t=bF e t)→zQ ⟨Tryz.prog,89,10,nb,tb,[100080,100083]⟩ K P [uv.getD 11 default,uv.getD 12 default] e7 J7 U:=by
  intro e7 J7 i7 Jq EF hp hi hg hl ZM aaU hold;rw[j5]
  conv=>arg 2;whnf
  refine xY 127 (A++sU (f,w)) EF B m (by simp[bK,ZM]) (by simp[bK,ZM]) (by simp[bK,ZM,aaU];exact⟨rfl,rfl,rfl,rfl,rfl⟩) (by simp) hg (by simp[hA];omega) (by simpa using hl) (by simpa using CB _ hp) (by simp[hB]) (by simp;omega) (by omega) (by simp) (by simp) ?_;intro i8 TQ B8 J8 mY hl8 hc8;have l7:=(List.getElem?_eq_some_iff.1 hg).1;have Rj:eT J J8:=by
   rcases mY with⟨rfl,_⟩|⟨rfl,_⟩
   ·exact hp.set hi _
   ·exact hp.app _
  have hi8:J.length≤i8:=by
   have:=hp.le;rcases mY with⟨_,rfl⟩|⟨_,rfl⟩<;>omega
  have hg8:J8[i8]?=some (.cells (A++sU (f,w)++B++B8)):=by
   rcases mY with⟨rfl,rfl⟩|⟨rfl,rfl⟩
   ·rw[List.getElem?_set_self l7]
   ·simp
  refine⟨hP J8 Rj,jX (lt_of_sub_eq_succ rfl) ?_⟩;rw[j5]
  conv=>arg 2;whnf
  refine LI (v:=.bJ i8 (n+1+m) TQ) (H':=J8) (T':=U) rfl rfl rfl rfl (by simp[bK,cF]) ⟨hP J8 Rj,jX (lt_of_sub_eq_succ rfl) ?_⟩;rw[LG];exact k _ J8 i8 TQ B8 Rj hi8 hg8 (cF _ _ _) fun t h1 h2=>by
   rw[bB _ _ _ _ (fun e=>h2 e.symm),bB _ _ _ _ (by omega),hold t h1]
 rcases eq_zero_or_pos n with h0|h0
 ·subst h0;have ZL:A=[]:=List.length_eq_zero_iff.1 (by simpa using hA);subst ZL;rw[j5]
  conv=>arg 2;whnf
  refine Oa (by simp[-fN,bK,ZP,ZO,IA]) ⟨hP J RF,jX (lt_of_sub_eq_succ rfl) ?_⟩;rw[j5]
  conv=>arg 2;whnf
  refine vz (m:=1) (z:=3) (ys:=sU (f,w)) (by simp[bK,ZN,cF,bB,fN]) (by simp[bK,ZN,cF,bB,fN]) fun nc kT=>⟨hP _ (RF.app _),jX (lt_of_sub_eq_succ rfl) ?_⟩
  refine tail _ _ J.length nc (List.replicate ((nc-1)*3) .top) (RF.app _) (le_refl _) (by simp) (by simp;omega) (by simp[cF]) ?_ ?_
  ·rw[bB _ _ _ _ (by omega),bB _ _ _ _ (by omega),h86]
  ·intro t ht;rw[bB _ _ _ _ (by omega),bB _ _ _ _ (by omega)]
 ·have Cq:n≠0:=by omega
  have q1:n*48≤140737488355328:=by omega
  have q2:n≤9223372036854775807:=by omega
  rw[j5]
  conv=>arg 2;whnf
  refine vz (m:=n) (z:=3) (ys:=A) (by simp[-fN,bK,ZP,ZO,IA,Cq]) (by simp[-fN,bK,ZP,ZO,IA,h0,q1,q2]) fun nc kT=>⟨hP _ (RF.app _),jX (lt_of_sub_eq_succ rfl) ?_⟩
  rw[j5]
  conv=>arg 2;whnf
  refine xY 127 A (List.replicate ((nc-n)*3) .top) (sU (f,w)) 1 (i:=J.length) (n:=n) (cap:=nc) (by simp[bK,cF]) (by simp[bK,cF]) (by simp[bK,cF,bB,ZN];exact⟨rfl,rfl,rfl⟩) (by simp) (by simp) (by simpa using hA) (by simp[hA,Nat.sub_mul];omega) (by simp[fN]) (by simp) (by simp;omega) (by omega) (by simp) (by simp) ?_;intro i7 Jq B7 J7 mY hl7 hc7;have hp7:eT J J7:=by
   rcases mY with⟨rfl,_⟩|⟨rfl,_⟩
   ·exact(RF.app _).set (le_refl _) _
   ·exact(RF.app _).app _
  have hi7:J.length≤i7:=by
   rcases mY with⟨_,rfl⟩|⟨_,rfl⟩<;>simp
  refine⟨hP J7 hp7,jX (lt_of_sub_eq_succ rfl) ?_⟩;refine tail _ J7 i7 Jq B7 hp7 hi7 ?_ (by simpa using hl7) (cF _ _ _) ?_ ?_
  ·rcases mY with⟨rfl,rfl⟩|⟨rfl,rfl⟩
   ·rw[List.getElem?_set_self (by simp)]
   ·rw[List.getElem?_append_right (le_refl _)];simp
  ·rw[bB _ _ _ _ (by omega),bB _ _ _ _ (by omega),h86]
  ·intro t ht;rw[bB _ _ _ _ (by omega),bB _ _ _ _ (by omega)]
attribute [-simp] getD_eq_getElem?_getD in
theorem K9 (L:List Dc)(f:Int)(ws:List Wd)(i zi k p6:Nat)(ks:List Ky)(tv:AV)(h0 nb tb:Nat)(J:List aA)(U:ar)(hk:k<ws.length)(L4:ks.length≤1000000)(MA:TR h0 J ks tv)(h6:J[p6]?=some (.cells (mX ⟨f,ws⟩)))
  (fO:nb≤J.length) (eS:tb≤U.length) (HO:bC J U) (h0J:h0≤J.length) (Q:Exit→St→Prop)
  (go:∀(e:Env)(J':List aA)(wC:AV),(∃G,J'=J++G)→TR h0 J' (jJ (f,(ws.getD k w0).1) ks) wC→
   bt J'.length U.length e [(0,.sl L.length (aM L) .none),(3,wC),(4,.int .i64 (i:Nat)),(5,.int .i64 (zi:Nat)),(6,.ptr p6 0),(7,.int .i64 (k:Nat))]→Q .normal ⟨e,J',U⟩) :
  AW ⟨Tryz.prog,89,10,nb,tb,[100080,100083]⟩ (du [1,1,0,1,0,0,1,0,0,1,0,0,1,0,0,1,1,0,0,1,0,0] (Tryz.f67.body.getD .skip)) Q
   ⟨[(0,.sl L.length (aM L) .none),(3,tv),(4,.int .i64 (i:Nat)),(5,.int .i64 (zi:Nat)),(6,.ptr p6 0),(7,.int .i64 (k:Nat))],J,U⟩:=by
 conv=>arg 2;whnf
 have fP:=(tM ws k hk).1;have e6:=aV h6;have l6:=(List.getElem?_eq_some_iff.1 h6).1;generalize (ws.getD k w0).1=w at *;refine aI [9,10] [0,0,0,0,0,0,0,0,0,0,1] [[0,1,2,3,4,5,6,7,8],[]] al (by kernel_rfl) (by kernel_rfl) fun K hK=>?_;simp(disch:=omega)[e6,l6,dV,fP,hk,getElem?_append_left,List.getElem_append_left];apply hK;clear hK K;have eX:bC (J++[.cells (sU (f,w))]) U:=HO.snoc (by simp);have g8:(J++[aA.cells (sU (f,w))])[J.length]?=some (.cells (sU (f,w))):=by simp
 have MU:=MA.app [aA.cells (sU (f,w))];have ql:(J++[aA.cells (sU (f,w))]).length=J.length+1:=by simp
 have tu:∃G,J++[aA.cells (sU (f,w))]=J++G:=⟨_,rfl⟩
 obtain⟨p8,Rj⟩:∃p,p=J.length:=⟨_,rfl⟩
 rw[←Rj] at g8;simp only[←Rj];rw[show aA.cells [.int .i64 f,.str w,.sl 0 [] .full]=.cells (sU (f,w)) from rfl];generalize J++[aA.cells (sU (f,w))]=J1 at *;have e8:=aV g8;have l8:=(List.getElem?_eq_some_iff.1 g8).1;have yj:∀(n:Nat),J1.length≤n→Below n U.length tv:=fun n hn=>by
  rcases MU with⟨_,rfl⟩|⟨i,rest,rfl,_,h3,_⟩
  ·simp
  ·have:=(List.getElem?_eq_some_iff.1 h3).1;simp;omega
 have TF:=yj J1.length (le_refl _);refine aH ⟨[(0,.sl L.length (aM L) .none),(3,tv),(4,.int .i64 (i:Nat)),(5,.int .i64 (zi:Nat)),(6,.ptr p6 0),(7,.int .i64 (k:Nat)),(8,.ptr p8 0)],J1,U⟩ (ag [] [] (by simp) (by simp) (by show nb≤J1.length;omega) eS eX (by simp[TF];omega)) ?_;apply ae;intro K h;simp(disch:=omega);apply h;clear h K;refine af fun K5 gC=>?_;apply ah;have CG:∀(e:Env)(n:Nat),bt J1.length U.length e [(0,.sl L.length (aM L) .none),(3,tv),(4,.int .i64 (i:Nat)),(5,.int .i64 (zi:Nat)),(6,.ptr p6 0),(7,.int .i64 (k:Nat)),(8,.ptr p8 0),(9,.int .i64 (n:Nat))]→
   uu ⟨Tryz.prog,89,10,nb,tb,[100080,100083]⟩ ⟨e,J1,U⟩ ⟨[(0,.sl L.length (aM L) .none),(3,tv),(4,.int .i64 (i:Nat)),(5,.int .i64 (zi:Nat)),(6,.ptr p6 0),(7,.int .i64 (k:Nat)),(8,.ptr p8 0),(9,.int .i64 (n:Nat))],J1,U⟩:=fun e n he=>
  ag [] [] (by simp) (by simp) (by show nb≤J1.length;omega) eS eX he
 have cont:∀n,n≤ks.length→(∀j,j<n→bM (ks.getD j k0) (f,w)=true)→(n<ks.length→bM (ks.getD n k0) (f,w)=false)→∀e,bt J1.length U.length e [(0,.sl L.length (aM L) .none),(3,tv),(4,.int .i64 (i:Nat)),(5,.int .i64 (zi:Nat)),(6,.ptr p6 0),(7,.int .i64 (k:Nat)),(8,.ptr p8 0),(9,.int .i64 (n:Nat))]→K5 ⟨e,J1,U⟩:=by
  intro n zp wF sY e he;refine gC _ (aH _ (CG e n he) ?_);clear gC he;obtain⟨Ug,uk⟩:=Fc (f,w) ks n zp wF sY;have fin:(n<ks.length→bM (f,w) (ks.getD n k0)=true)→∀(e:Env)(J':List aA)(i' jO:Nat)(kh:List AV),eT J1 J'→J1.length≤i'→J'[i']?=some (.cells (fM (ks.take n++(f,w)::ks.drop n)++kh))→
    bt J'.length U.length e [(0,.sl L.length (aM L) .none),(3,.bV i' 0 (n+1+(ks.length-n))),(4,.int .i64 (i:Nat)),(5,.int .i64 (zi:Nat)),(6,.ptr p6 0),(7,.int .i64 (k:Nat))]→Q .normal ⟨e,J',U⟩:=by
   intro h e J' i' jO kh hp gX hg he;obtain⟨G,rfl⟩:=hp;obtain⟨G1,rfl⟩:=tu;have hl:(jJ (f,w) ks).length=n+1+(ks.length-n):=by rw[uk h];simp;omega
   refine go e _ _ ⟨G1++G,by simp⟩ (.inr ⟨i',kh,rfl,by simp at gX;omega,by rw[uk h];exact hg,by omega⟩) ?_;rw[hl];exact he
  have wi:(n<ks.length→bM (f,w) (ks.getD n k0)=true)→∀(e e0:Env)(J':List aA)(i' jO:Nat)(kh:List AV),eT J1 J'→J1.length≤i'→J'[i']?=some (.cells (fM (ks.take n)++sU (f,w)++fM (ks.drop n)++kh))→bF e 3=.bJ i' (n+1+(ks.length-n)) jO→(∀t,t<80→t≠3→bF e t=bF e0 t)→
    bF e0 0=.sl L.length (aM L) .none→bF e0 4=.int .i64 (i:Nat)→bF e0 5=.int .i64 (zi:Nat)→bF e0 6=.ptr p6 0→bF e0 7=.int .i64 (k:Nat)→Q .normal ⟨e,J',U⟩:=by
   intro h e e0 J' i' jO kh hp gX hg h3 hold q0 q4 q5 q6 q7;have hle:=hp.le;have aZ:=(List.getElem?_eq_some_iff.1 hg).1;refine fin h e J' i' jO kh hp gX ?_ ?_
   ·rw[hg];congr 2;rw[show fM (ks.take n++(f,w)::ks.drop n)=fM (ks.take n)++sU (f,w)++fM (ks.drop n) by simp[fM]]
   ·simp[h3,hold,q0,q4,q5,q6,q7,aZ];omega
  have c1:(fM (ks.take n)).length=n*3:=by rw[kz,length_take];omega
  have c2:(fM (ks.drop n)).length=(ks.length-n)*3:=by rw[kz,length_drop]
  have JC:∀J',eT J1 J'→J'[p8]?=some (.cells (sU (f,w))):=by
   rintro J' ⟨G,rfl⟩;rw[getElem?_append_left l8];exact g8
  rcases MU with⟨rfl,rfl⟩|⟨ib,rest,rfl,yh,gi,ji⟩
  ·have Cq:n=0:=by simpa using zp
   subst Cq;refine aI [] [] [] al (by kernel_rfl) (by kernel_rfl) fun K hK=>?_;simp(disch:=omega) ;apply hK;clear hK K;apply aF rfl;refine si [4,7,11,12] al (by kernel_rfl) fun K hK=>?_;simp(disch:=omega)[dR,e8,l8];refine yD (fun J' _=>J'[p8]?=some (.cells (sU (f,w)))) (fun J' U' Ez=>?_) ?_
   ·have e9:=aV Ez;have l9:=(List.getElem?_eq_some_iff.1 Ez).1;simp(disch:=omega)[dR,e9,l9]
   ·exact yZ f w 0 0 [] [] _ _ _ J1 U (by omega) (by omega) rfl rfl rfl rfl rfl rfl rfl (fun _ _=>rfl) JC fun e' J' i' jO kh hp gX hg h3 hold=>hK _ (wi (fun h=>absurd h (not_lt_zero _)) e' _ J' i' jO kh hp gX (by simpa[fM] using hg) h3 hold rfl rfl rfl rfl rfl)
  ·have bA:=uY ks rest;have hlen:(fM ks++rest).length=ks.length*3+rest.length:=by rw[length_append,kz]
   have WW:(fM ks++rest).take (n*3)=fM (ks.take n):=by rw[List.take_append_of_le_length (by rw[kz];omega),NQ]
   have qk:((fM ks++rest).drop (n*3)).take ((ks.length-n)*3)=fM (ks.drop n):=by
    rw[List.drop_append_of_le_length (by rw[kz];omega),HG,List.take_left' c2]
   generalize Iz:fM ks++rest=vs at *;have ei:=aV gi;have li:=(List.getElem?_eq_some_iff.1 gi).1;have Ux:∀J',eT J1 J'→J'[ib]?=some (.cells vs):=by
    rintro J' ⟨G,rfl⟩;rw[getElem?_append_left li];exact gi
   rcases lt_or_ge n ks.length with h4|h4
   ·have uA:=bA n h4;have b1:((n:Int)==(ks.length:Int))=false:=beq_eq_false_iff_ne.2 (by omega);have c:=oz (f,w) (ks.getD n k0) (.sl 0 [] .full) (.sl 0 [] .full) J1 U (by simp) (by simp);have d1:n*3+3≤vs.length:=by omega
    have d2:n*3≤vs.length:=by omega
    have d3:n*3+(ks.length-n)*3≤vs.length:=by omega
    cases aZ:bM (f,w) (ks.getD n k0) with
    |false=>
     rw[aZ] at c;rw[Ug h4 aZ] at go;generalize ks.getD n k0=y at *;refine aI [] [] [] al (by kernel_rfl) (by kernel_rfl) fun K hK=>?_;simp(disch:=omega)[b1,h4,e8,l8,ei,li,uA,d1,d2];refine aB (c) rfl ?_;simp(disch:=omega) ;apply hK;clear hK K;apply aD rfl;apply ai;obtain⟨G1,hG1⟩:=tu;refine go _ J1 _ ⟨G1,hG1⟩ (.inr ⟨ib,rest,rfl,yh,by rw[Iz];exact gi,ji⟩) ?_;simp[li];omega
    |true=>
     rw[aZ] at c;have Qp:=wi fun _=>aZ;generalize ks.getD n k0=y at *;refine aI [] [] [] al (by kernel_rfl) (by kernel_rfl) fun K hK=>?_;simp(disch:=omega)[b1,h4,e8,l8,ei,li,uA,d1,d2];refine aB (c) rfl ?_;simp(disch:=omega) ;apply hK;clear hK K;apply aF rfl;refine si [4,7,11,12] al (by kernel_rfl) fun K hK=>?_;simp(disch:=omega)[dR,e8,l8,h4];refine yD (fun J' _=>J'[p8]?=some (.cells (sU (f,w)))) (fun J' U' Ez=>?_) ?_
     ·have e9:=aV Ez;have l9:=(List.getElem?_eq_some_iff.1 Ez).1;simp(disch:=omega)[dR,e9,l9,h4]
     ·exact yZ f w n (ks.length-n) (fM (ks.take n)) (fM (ks.drop n)) _ _ _ J1 U (by omega) (by omega) c1 c2 rfl rfl rfl rfl (by simp[fN,ei,li,d2,WW]) (fun J' hp=>by
       have:=Ux J' hp;simp[fN,this,d3,qk]) JC fun e' J' i' jO kh hp gX hg h3 hold=>hK _ (Qp e' _ J' i' jO kh hp gX hg h3 hold rfl rfl rfl rfl rfl)
   ·have Zo:n=ks.length:=by omega
    subst Zo;have Qp:=wi fun h=>absurd h (Nat.lt_irrefl _);have d2:ks.length*3≤vs.length:=by omega
    have dA:ks≠[]:=fun e=>by rw[e] at ji;exact absurd ji (Nat.lt_irrefl _)
    refine aI [] [] [] al (by kernel_rfl) (by kernel_rfl) fun K hK=>?_;simp(disch:=omega) ;apply hK;clear hK K;apply aF rfl;refine si [4,7,11,12] al (by kernel_rfl) fun K hK=>?_;simp(disch:=omega)[dR,e8,l8,dA];refine yD (fun J' _=>J'[p8]?=some (.cells (sU (f,w)))) (fun J' U' Ez=>?_) ?_
    ·have e9:=aV Ez;have l9:=(List.getElem?_eq_some_iff.1 Ez).1;simp(disch:=omega)[dR,e9,l9,dA]
    ·exact yZ f w ks.length (ks.length-ks.length) (fM (ks.take ks.length)) (fM (ks.drop ks.length)) _ _ _ J1 U (by omega) (by omega) c1 c2 rfl rfl rfl rfl (by simp[fN,ei,li,d2,WW]) (fun J' hp=>by simp[fM]) JC fun e' J' i' jO kh hp gX hg h3 hold=>hK _ (Qp e' _ J' i' jO kh hp gX hg h3 hold rfl rfl rfl rfl rfl)
 refine aG (X:=Nat) (fun n=>⟨[(0,.sl L.length (aM L) .none),(3,tv),(4,.int .i64 (i:Nat)),(5,.int .i64 (zi:Nat)),(6,.ptr p6 0),(7,.int .i64 (k:Nat)),(8,.ptr p8 0),(9,.int .i64 (n:Nat))],J1,U⟩)
  (fun n=>n≤ks.length∧∀j,j<n→bM (ks.getD j k0) (f,w)=true) (fun n=>ks.length-n) 0 ?_ ?_ ?_
 ·exact⟨zero_le _,fun j hj=>absurd hj (not_lt_zero _)⟩
 ·refine CG _ 0 ?_;simp[TF,l8];omega
 ·rintro n ⟨zp,wF⟩;replace cont:=cont n zp wF;have aay:=CG;refine af fun K6 iH=>?_;rcases lt_or_ge n ks.length with h4|h4
  ·rcases MU with⟨rfl,rfl⟩|⟨ib,rest,rfl,yh,gi,ji⟩
   ·exact absurd h4 (not_lt_zero _)
   have uA:=uY ks rest n h4;have hlen:(fM ks++rest).length=ks.length*3+rest.length:=by rw[length_append,kz]
   generalize fM ks++rest=vs at *;have ei:=aV gi;have li:=(List.getElem?_eq_some_iff.1 gi).1;have d1:n*3+3≤vs.length:=by omega
   have b1:decide ((n:Int)<(ks.length:Int))=true:=decide_eq_true (by omega);have c:=oz (ks.getD n k0) (f,w) (.sl 0 [] .full) (.sl 0 [] .full) J1 U (by simp) (by simp);have eM:bM (ks.getD n k0) (f,w)=true→∀j,j<n+1→bM (ks.getD j k0) (f,w)=true:=fun h j hj=>by
    rcases lt_or_ge j n with h3|h3
    ·exact wF j h3
    ·have:j=n:=by omega
     subst this;exact h
   cases aZ:bM (ks.getD n k0) (f,w) with
   |true=>
    rw[aZ] at c;replace eM:=eM aZ;generalize ks.getD n k0=y at uA c;refine aI [] [] [] al (by kernel_rfl) (by kernel_rfl) fun K hK=>?_;simp(disch:=omega)[b1,h4,e8,l8,ei,li,uA,d1];refine aB (c) rfl ?_;simp(disch:=omega) ;apply hK;clear hK K;apply aF rfl;apply ai;apply iH;clear iH;apply ah;refine au fun K hK=>?_;simp(disch:=omega) ;apply hK;clear hK K;refine⟨n+1,⟨by show n+1≤_;omega,eM⟩,by show ks.length-(n+1)<ks.length-n;omega,?_⟩;refine aay _ (n+1) ?_;simp[li,l8];omega
   |false=>
    rw[aZ] at c;replace cont:=cont fun _=>aZ;generalize ks.getD n k0=y at uA c;refine aI [] [] [] al (by kernel_rfl) (by kernel_rfl) fun K hK=>?_;simp(disch:=omega)[b1,h4,e8,l8,ei,li,uA,d1];refine aB (c) rfl ?_;simp(disch:=omega) ;apply hK;clear hK K;apply aD rfl;apply aC;simp(disch:=omega) ;refine cont _ ?_;simp[li,l8];omega
  ·have Zo:n=ks.length:=by omega
   replace cont:=cont fun h=>absurd h (by omega);subst Zo;rcases MU with⟨rfl,rfl⟩|⟨ib,rest,rfl,yh,gi,ji⟩
   ·refine aI [] [] [] al (by kernel_rfl) (by kernel_rfl) fun K hK=>?_;simp(disch:=omega) ;apply hK;clear hK K;apply aD rfl;apply aC;simp(disch:=omega) ;refine cont _ ?_;simp[l8];omega
   ·have li:=(List.getElem?_eq_some_iff.1 gi).1;refine aI [] [] [] al (by kernel_rfl) (by kernel_rfl) fun K hK=>?_;simp(disch:=omega) ;apply hK;clear hK K;apply aD rfl;apply aC;simp(disch:=omega) ;refine cont _ ?_;simp[li,l8];omega
attribute [-simp] getD_eq_getElem?_getD in
theorem BC (L:List Dc)(f:Int)(ws:List Wd)(i zi p6:Nat)(ks:List Ky)(tv:AV)(h0 nb tb:Nat)(J:List aA)(U:ar)(L4:ks.length+ws.length≤1000000)(MA:TR h0 J ks tv)(h6:J[p6]?=some (.cells (mX ⟨f,ws⟩)))
  (fO:nb≤J.length) (eS:tb≤U.length) (HO:bC J U) (h0J:h0≤J.length) (Q:Exit→St→Prop)
  (go:∀(e:Env)(J':List aA)(wC:AV),(∃G,J'=J++G)→TR h0 J' (dq ks (eK ⟨f,ws⟩)) wC→
   bt J'.length U.length e [(0,.sl L.length (aM L) .none),(3,wC),(4,.int .i64 (i:Nat)),(5,.int .i64 (zi:Nat))]→Q .normal ⟨e,J',U⟩) :
  AW ⟨Tryz.prog,89,10,nb,tb,[100080,100083]⟩ (du [1,1,0,1,0,0,1,0,0,1,0,0,1,0,0,1] (Tryz.f67.body.getD .skip)) Q
   ⟨[(0,.sl L.length (aM L) .none),(3,tv),(4,.int .i64 (i:Nat)),(5,.int .i64 (zi:Nat)),(6,.ptr p6 0)],J,U⟩:=by
 conv=>arg 2;whnf
 have l6:=(List.getElem?_eq_some_iff.1 h6).1;have yj:∀(J1:List aA)(Eo:List Ky)(sn:AV),TR h0 J1 Eo sn→Below J1.length U.length sn:=fun J1 Eo sn h=>by
  rcases h with⟨_,rfl⟩|⟨i,rest,rfl,_,h3,_⟩
  ·simp
  ·simpa using(List.getElem?_eq_some_iff.1 h3).1
 have FM:=yj J ks tv MA;apply ae;intro K h;simp(disch:=omega);apply h;clear h K;apply ah;refine aG (X:=Nat×List aA×AV) (fun x=>⟨[(0,.sl L.length (aM L) .none),(3,x.2.2),(4,.int .i64 (i:Nat)),(5,.int .i64 (zi:Nat)),(6,.ptr p6 0),(7,.int .i64 (x.1:Nat))],x.2.1,U⟩)
  (fun x=>x.1≤ws.length∧(∃G,x.2.1=J++G)∧TR h0 x.2.1 (dq ks ((ws.take x.1).map fun w=>(f,w.1))) x.2.2∧bC x.2.1 U) (fun x=>ws.length-x.1) (0,J,tv) ?_ ?_ ?_
 ·exact⟨zero_le _,⟨[],by simp⟩,by simpa[dq] using MA,HO⟩
 ·refine ag [] [] (by simp) (by simp) fO eS HO ?_;simp[FM,l6]
 ·rintro⟨k,J1,sn⟩ ⟨g1,⟨G,hG⟩,g3,g4⟩;simp only at g1 hG g3 g4;have ql:J.length≤J1.length:=by rw[hG];simp
  have ZQ:J1[p6]?=some (.cells (mX ⟨f,ws⟩)):=by rw[hG,getElem?_append_left l6];exact h6
  have e6:=aV ZQ;have Y9:=(List.getElem?_eq_some_iff.1 ZQ).1;have oI:=yj J1 _ sn g3;refine af fun K5 gC=>?_;refine ae fun K hK=>?_;simp(disch:=omega)[e6,Y9];apply hK;clear hK K;refine aN rfl (fun hk=>?_) (fun hk=>?_)
  ·simp  at hk;have gB:(dq ks ((ws.take k).map fun w=>(f,w.1))).length≤1000000:=by
    have:=mF ((ws.take k).map fun w=>(f,w.1)) ks;rw[length_map,length_take] at this;omega
   have tI:dq ks ((ws.take (k+1)).map fun w=>(f,w.1))=jJ (f,(ws.getD k w0).1) (dq ks ((ws.take k).map fun w=>(f,w.1))):=by
    rw[bf ws k w0 hk,map_append,qh];rfl
   generalize dq ks ((ws.take k).map fun w=>(f,w.1))=Eo at *;apply ai;apply gC;clear gC;refine af fun K6 iH=>?_;apply ah;refine aH ⟨[(0,.sl L.length (aM L) .none),(3,sn),(4,.int .i64 (i:Nat)),(5,.int .i64 (zi:Nat)),(6,.ptr p6 0),(7,.int .i64 (k:Nat))],J1,U⟩ (ag [] [] (by simp) (by simp) (by show nb≤J1.length;omega) eS g4 (by simp[oI,Y9])) ?_;refine K9 L f ws i zi k p6 Eo sn h0 nb tb J1 U hk gB g3 ZQ (by omega) eS g4 (by omega) _ fun e J2 YU MD ZH he=>?_;have iE:=yj J2 _ YU ZH;obtain⟨G2,MD⟩:=MD;have iD:J1.length≤J2.length:=by rw[MD];simp
   refine iH _ (cZ fun dy=>?_);refine aH ⟨[(0,.sl L.length (aM L) .none),(3,YU),(4,.int .i64 (i:Nat)),(5,.int .i64 (zi:Nat)),(6,.ptr p6 0),(7,.int .i64 (k:Nat))],J2,U⟩ (ag [] [] (by simp) (by simp) (by show nb≤J2.length;omega) eS dy he) ?_;refine au fun K hK=>?_;simp(disch:=omega) ;apply hK;clear hK K;refine⟨(k+1,J2,YU),⟨by show k+1≤_;omega,⟨G++G2,by rw[MD,hG,append_assoc]⟩,by simp only;rw[tI];exact ZH,dy⟩,by show ws.length-(k+1)<ws.length-k;omega,?_⟩;refine ag [] [] (by simp) (by simp) (by show nb≤J2.length;omega) eS dy ?_;simp[iE];omega
  ·simp  at hk;have CE:k=ws.length:=by omega
   subst CE;rw[take_length] at g3;apply aC;simp(disch:=omega) ;refine go _ J1 sn ⟨G,hG⟩ g3 ?_;simp[oI]
attribute [-simp] getD_eq_getElem?_getD in
theorem Bw (L:List Dc)(i:Nat)(hi:i<L.length)(ks:List Ky)(tv:AV)(h0 nb tb:Nat)(J:List aA)(U:ar)(L4:ks.length+(dF (L.getD i d0)).length≤1000000)(vR:(L.getD i d0).zs.length≤9223372036854775807)(MA:TR h0 J ks tv)
  (fO:nb≤J.length) (eS:tb≤U.length) (HO:bC J U) (h0J:h0≤J.length) (Q:Exit→St→Prop)
  (go:∀(e:Env)(J':List aA)(wC:AV),(∃G,J'=J++G)→TR h0 J' (dq ks (dF (L.getD i d0))) wC→
   bt J'.length U.length e [(0,.sl L.length (aM L) .none),(3,wC),(4,.int .i64 (i:Nat))]→Q .normal ⟨e,J',U⟩) :
  AW ⟨Tryz.prog,89,10,nb,tb,[100080,100083]⟩ (du [1,1,0,1,0,0,1,0,0] (Tryz.f67.body.getD .skip)) Q
   ⟨[(0,.sl L.length (aM L) .none),(3,tv),(4,.int .i64 (i:Nat))],J,U⟩:=by
 conv=>arg 2;whnf
 obtain⟨_,fP,_⟩:=jc L i hi;have yj:∀(J1:List aA)(Eo:List Ky)(sn:AV),TR h0 J1 Eo sn→Below J1.length U.length sn:=fun J1 Eo sn h=>by
  rcases h with⟨_,rfl⟩|⟨i,rest,rfl,_,h3,_⟩
  ·simp
  ·simpa using(List.getElem?_eq_some_iff.1 h3).1
 have FM:=yj J ks tv MA;unfold dF at L4 go;generalize (L.getD i d0).zs=zs at *;apply ae;intro K h;simp(disch:=omega);apply h;clear h K;apply ah;refine aG (X:=Nat×List aA×AV) (fun x=>⟨[(0,.sl L.length (aM L) .none),(3,x.2.2),(4,.int .i64 (i:Nat)),(5,.int .i64 (x.1:Nat))],x.2.1,U⟩)
  (fun x=>x.1≤zs.length∧(∃G,x.2.1=J++G)∧TR h0 x.2.1 (dq ks ((zs.take x.1).flatMap eK)) x.2.2∧bC x.2.1 U) (fun x=>zs.length-x.1) (0,J,tv) ?_ ?_ ?_
 ·exact⟨zero_le _,⟨[],by simp⟩,by simpa[dq] using MA,HO⟩
 ·refine ag [] [] (by simp) (by simp) fO eS HO ?_;simp[FM]
 ·rintro⟨k,J1,sn⟩ ⟨g1,⟨G,hG⟩,g3,g4⟩;simp only at g1 hG g3 g4;have ql:J.length≤J1.length:=by rw[hG];simp
  have oI:=yj J1 _ sn g3;refine af fun K5 gC=>?_;refine ae fun K hK=>?_;simp(disch:=omega)[fP,bD,hi];apply hK;clear hK K;refine aN rfl (fun hk=>?_) (fun hk=>?_)
  ·simp  at hk;have bA:=qQ zs k hk;have tI:dq ks ((zs.take (k+1)).flatMap eK)=dq (dq ks ((zs.take k).flatMap eK)) (eK (zs.getD k z0)):=by
    rw[bf zs k z0 hk,flatMap_append,qh];simp
   have gB:(dq ks ((zs.take k).flatMap eK)).length+(zs.getD k z0).ws.length≤1000000:=by
    have h1:=mF ((zs.take k).flatMap eK) ks;have h2:((zs.take k).flatMap eK).length+(eK (zs.getD k z0)).length≤(zs.flatMap eK).length:=by
     have h3:zs.flatMap eK=(zs.take k).flatMap eK++(eK (zs.getD k z0)++(zs.drop (k+1)).flatMap eK):=by
      conv=>lhs;rw[←take_append_drop k zs,da zs k z0 hk,flatMap_append,flatMap_cons]
     rw[h3];simp
    have h4:(eK (zs.getD k z0)).length=(zs.getD k z0).ws.length:=by simp[eK]
    omega
   generalize dq ks ((zs.take k).flatMap eK)=Eo at *;generalize zs.getD k z0=z at *;obtain⟨f,ws⟩:=z;simp only at bA gB;apply ai;apply gC;clear gC;refine af fun K6 iH=>?_;apply ah;refine ae fun K hK=>?_;simp(disch:=omega)[fP,bD,hi,bA,fm,hk];apply hK;clear hK K;have eX:bC (J1++[.cells (mX ⟨f,ws⟩)]) U:=g4.snoc (by simp);have hg6:(J1++[aA.cells (mX ⟨f,ws⟩)])[J1.length]?=some (.cells (mX ⟨f,ws⟩)):=by simp
   have Xf:=g3.app [aA.cells (mX ⟨f,ws⟩)];have hlx:(J1++[aA.cells (mX ⟨f,ws⟩)]).length=J1.length+1:=by simp
   have hGx:∃G',J1++[aA.cells (mX ⟨f,ws⟩)]=J++G':=⟨G++[aA.cells (mX ⟨f,ws⟩)],by rw[hG,append_assoc]⟩
   rw[show aA.cells [.int .i64 f,.sl ws.length (cJ ws) .none]=.cells (mX ⟨f,ws⟩) from rfl];obtain⟨p6,hp6⟩:∃p,p=J1.length:=⟨_,rfl⟩
   rw[←hp6] at hg6;simp only[←hp6];generalize J1++[aA.cells (mX ⟨f,ws⟩)]=J2 at *;obtain⟨G',hG'⟩:=hGx;have iE:=yj J2 _ sn Xf;refine aH ⟨[(0,.sl L.length (aM L) .none),(3,sn),(4,.int .i64 (i:Nat)),(5,.int .i64 (k:Nat)),(6,.ptr p6 0)],J2,U⟩ (ag [] [] (by simp) (by simp) (by show nb≤J2.length;omega) eS eX (by simp[iE];omega)) ?_;refine BC L f ws i k p6 Eo sn h0 nb tb J2 U gB Xf hg6 (by omega) eS eX (by omega) _ fun e J3 Pk EA SP he=>?_;have Mz:=yj J3 _ Pk SP;obtain⟨G3,EA⟩:=EA;have Rs:J2.length≤J3.length:=by rw[EA];simp
   refine iH _ (cZ fun dy=>?_);refine aH ⟨[(0,.sl L.length (aM L) .none),(3,Pk),(4,.int .i64 (i:Nat)),(5,.int .i64 (k:Nat))],J3,U⟩ (ag [] [] (by simp) (by simp) (by show nb≤J3.length;omega) eS dy he) ?_;refine au fun K hK=>?_;simp(disch:=omega) ;apply hK;clear hK K;refine⟨(k+1,J3,Pk),⟨by show k+1≤_;omega,⟨G'++G3,by rw[EA,hG',append_assoc]⟩,by simp only;rw[tI];exact SP,dy⟩,by show zs.length-(k+1)<zs.length-k;omega,?_⟩;refine ag [] [] (by simp) (by simp) (by show nb≤J3.length;omega) eS dy ?_;simp[Mz]
  ·simp  at hk;have CE:k=zs.length:=by omega
   subst CE;rw[take_length] at g3;apply aC;simp(disch:=omega) ;refine go _ J1 sn ⟨G,hG⟩ g3 ?_;simp[oI]
attribute [-simp] getD_eq_getElem?_getD in
theorem Dm (L:List Dc)(hL:L.length≤1000000)(L4:(L.flatMap dF).length≤1000000)(hz:∀d∈L,d.zs.length≤1000000)(H:List aA)(T:ar)(tg:Tag) :
  aq Tryz.prog 67 [.sl L.length (aM L) tg] H T (fun r H' T'=>(∃G,H'=H++G)∧T'=T∧TR H.length H' (dE L) r):=by
 refine aq.cD ?_;rw[xy];have yj:∀(J1:List aA)(Eo:List Ky)(sn:AV),TR H.length J1 Eo sn→Below J1.length T.length sn:=fun J1 Eo sn h=>by
  rcases h with⟨_,rfl⟩|⟨i,rest,rfl,_,h3,_⟩
  ·simp
  ·simpa using(List.getElem?_eq_some_iff.1 h3).1
 refine aj 10 [100080,100083] Tryz.ntmps67 Tryz.func67 rfl (fun _ _=>Tryz.call67 _ _) (by simp) (fun HO=>?_);apply ae;intro K h;simp(disch:=omega);apply h;clear h K;apply ae;intro K h;simp(disch:=omega);apply h;clear h K;refine af fun K1 aQ=>?_;apply ae;intro K h;simp(disch:=omega);apply h;clear h K;apply ah;refine aG (X:=Nat×List aA×AV) (fun x=>⟨[(0,.sl L.length (aM L) .none),(3,x.2.2),(4,.int .i64 (x.1:Nat))],x.2.1,T⟩)
  (fun x=>x.1≤L.length∧(∃G,x.2.1=H++G)∧TR H.length x.2.1 (dq [] ((L.take x.1).flatMap dF)) x.2.2∧bC x.2.1 T) (fun x=>L.length-x.1) (0,H,.sl 0 [] .full) ?_ ?_ ?_
 ·exact⟨zero_le _,⟨[],by simp⟩,.inl ⟨by simp[dq],rfl⟩,HO⟩
 ·refine ag [] [] (by simp) (by simp) (le_refl _) (le_refl _) HO ?_;simp
 ·rintro⟨k,J1,sn⟩ ⟨g1,⟨G,hG⟩,g3,g4⟩;simp only at g1 hG g3 g4;have ql:H.length≤J1.length:=by rw[hG];simp
  have oI:=yj J1 _ sn g3;refine af fun K5 gC=>?_;apply ae;intro K h;simp(disch:=omega);apply h;clear h K;refine aN rfl (fun hk=>?_) (fun hk=>?_)
  ·simp  at hk;have tI:dq [] ((L.take (k+1)).flatMap dF)=dq (dq [] ((L.take k).flatMap dF)) (dF (L.getD k d0)):=by
    rw[bf L k d0 hk,flatMap_append,qh];simp
   have gB:(dq [] ((L.take k).flatMap dF)).length+(dF (L.getD k d0)).length≤1000000:=by
    have h1:=mF ((L.take k).flatMap dF) [];have h2:((L.take k).flatMap dF).length+(dF (L.getD k d0)).length≤(L.flatMap dF).length:=by
     have h3:L.flatMap dF=(L.take k).flatMap dF++(dF (L.getD k d0)++(L.drop (k+1)).flatMap dF):=by
      conv=>lhs;rw[←take_append_drop k L,da L k d0 hk,flatMap_append,flatMap_cons]
     rw[h3];simp
    rw[length_nil,zero_add] at h1;omega
   have hzk:=hz _ (aR L k d0 hk);generalize dq [] ((L.take k).flatMap dF)=Eo at *;apply ai;apply gC;clear gC;refine af fun K6 iH=>?_;apply ah;refine aH ⟨[(0,.sl L.length (aM L) .none),(3,sn),(4,.int .i64 (k:Nat))],J1,T⟩ (ag [] [] (by simp) (by simp) ql (le_refl _) g4 (by simp[oI])) ?_;refine Bw L k hk Eo sn H.length H.length T.length J1 T gB (by omega) g3 ql (le_refl _) g4 ql _ fun e J3 Pk EA SP he=>?_;have Mz:=yj J3 _ Pk SP;obtain⟨G3,EA⟩:=EA;have Rs:J1.length≤J3.length:=by rw[EA];simp
   refine iH _ (cZ fun dy=>?_);refine aH ⟨[(0,.sl L.length (aM L) .none),(3,Pk),(4,.int .i64 (k:Nat))],J3,T⟩ (ag [] [] (by simp) (by simp) (by show H.length≤J3.length;omega) (le_refl _) dy he) ?_;refine au fun K hK=>?_;simp(disch:=omega) ;apply hK;clear hK K;refine⟨(k+1,J3,Pk),⟨by show k+1≤_;omega,⟨G++G3,by rw[EA,hG,append_assoc]⟩,by simp only;rw[tI];exact SP,dy⟩,by show L.length-(k+1)<L.length-k;omega,?_⟩;refine ag [] [] (by simp) (by simp) (by show H.length≤J3.length;omega) (le_refl _) dy ?_;simp[Mz]
  ·simp  at hk;have CE:k=L.length:=by omega
   subst CE;rw[take_length] at g3;apply aC;simp(disch:=omega) ;apply aQ;clear aQ;apply ae;intro K h;simp(disch:=omega);apply h;clear h K;apply az;simp(disch:=omega) ;exact⟨⟨G,hG⟩,g3⟩
end Go.Proofs.YtneohapkboaplaaGreat
namespace eJ
open iF Go.Am
def j9 (ws:List Wd)(w:Bs):List Int:=(ws.filter fun x=>x.1==w).map (·.2)
theorem Hh (ws:List Wd)(w:Bs)(i:Nat)(h:i<ws.length):j9 (ws.take (i+1)) w=j9 (ws.take i) w++(if (ws.getD i w0).1=w then [(ws.getD i w0).2] else []):=by
 unfold j9;rw[bf ws i w0 h,filter_append,map_append]
 congr 1
 rw[List.filter_cons]
 by_cases h1:(ws.getD i w0).1=w
 ·rw[if_pos h1,if_pos (by simpa using h1)];rfl
 ·rw[if_neg h1,if_neg (by simpa using h1)];rfl
def pO (f:Int)(d:Dc):List Nm:=(zm d.ns f).map fun n=>(n,d.id)
theorem HK (L:List Dc)(f:Int):fe L f=L.flatMap (pO f):=by
 unfold fe pO zm
 congr 1
 funext d
 rw[map_map];exact List.map_congr_left fun x _=>rfl
end eJ
namespace Go.Proofs.YtneohapkboaplaaGreat
open Go Go.Am iF eJ
attribute [-simp] getD_eq_getElem?_getD in
theorem wx (d:Dc)(hs:wa d)(Iy:∀z∈d.zs,z.ws.length≤1000000)(f:Int)(w:Bs)(H:List aA)(T:ar):aq Tryz.prog 68 [.agg (fw d),.int .i64 f,.str w] H T (Is (.sl (j9 (nA d.zs f) w).length (ints (j9 (nA d.zs f) w)) .none) H T):=by
 refine aq.cH ?_ (by simp);have c:=fun H T=>Db d hs Iy f H T;have ua:(nA d.zs f).length≤1000000:=by
  have key:∀zs:List Zn,(∀z∈zs,z.ws.length≤1000000)→(nA zs f).length≤1000000:=by
   intro zs
   induction zs with
   |nil=>intro _;simp[nA]
   |cons z r ih=>
    intro h;unfold nA
    split
    ·exact h z (by simp)
    ·exact ih fun y hy=>h y (by simp[hy])
  exact key _ Iy
 generalize nA d.zs f=ws at *;refine aj 10 [] Tryz.ntmps68 Tryz.func68 rfl (fun _ _=>Tryz.call68 _ _) (by simp) (fun HO=>?_);apply ae;intro K h;simp(disch:=omega);apply h;clear h K;have eX:bC (H++[.cells (fw d)]) T:=HO.snoc (by simp);apply ae;intro K h;simp(disch:=omega);apply h;clear h K;refine ae fun K hK=>?_;simp(disch:=omega) ;refine ak (c _ _) ?_;simp(disch:=omega) ;apply hK;clear hK K;refine af fun K1 aQ=>?_;apply ae;intro K h;simp(disch:=omega);apply h;clear h K;apply ah;refine lF 7 0 1 [] (by omega) (by simp) ?_;refine aG (X:=Nat) (fun i=>⟨[(2,.str w),(7,.sl (j9 (ws.take i) w).length (ints (j9 (ws.take i) w)) (.own T.length)),(8,.sl ws.length (cJ ws) .none),(9,.int .i64 (i:Nat))],H++[.cells (fw d)],T++[((j9 (ws.take i) w).length,1)]⟩)
  (fun i=>i≤ws.length) (fun i=>ws.length-i) 0 ?_ ?_ ?_
 ·exact zero_le _
 ·refine ag [] [] ?_ ?_ ?_ ?_ (eX.fQ (by simp)) ?_
  all_goals simp[j9]
 ·intro i g1;refine af fun K2 aW=>?_;apply ae;intro K h;simp(disch:=omega);apply h;clear h K;refine aN rfl (fun hk=>?_) (fun hk=>?_)
  ·simp  at hk;obtain⟨a1,a2⟩:=tM ws i hk;have eN:=Hh ws w i hk;have wG:(j9 (ws.take i) w).length≤1000000:=by
    unfold j9;rw[length_map];exact le_trans (length_filter_le _ _) (by rw[length_take];omega)
   generalize j9 (ws.take i) w=out at *;generalize ws.getD i w0=x at *;obtain⟨xt,xp⟩:=x;simp only at a1 a2 eN;apply ai;simp(disch:=omega) ;apply aW;clear aW;refine af fun K3 bz=>?_;apply ah
   by_cases h1:xt=w
   ·have b1:(xt==w)=true:=by simpa using h1
    rw[if_pos h1] at eN;refine ae fun K hK=>?_;simp(disch:=omega)[a1,a2,dV,hk,b1,h1];apply hK;clear hK K;apply aF rfl;refine au fun K hK=>?_;simp(disch:=omega)[a1,a2,dV,hk,cX];apply hK;clear hK K;apply bz;clear bz;refine au fun K hK=>?_;simp(disch:=omega) ;apply hK;clear hK K;refine⟨i+1,by show i+1≤_;omega,by show ws.length-(i+1)<ws.length-i;omega,?_⟩;refine ag [] [] ?_ ?_ ?_ ?_ (eX.fQ (by simp)) ?_
    all_goals simp[eN]
   ·have b1:(xt==w)=false:=by simpa using h1
    rw[if_neg h1,append_nil] at eN;refine ae fun K hK=>?_;simp(disch:=omega)[a1,a2,dV,hk,b1,h1];apply hK;clear hK K;apply aD rfl;apply ai;simp(disch:=omega) ;apply bz;clear bz;refine au fun K hK=>?_;simp(disch:=omega) ;apply hK;clear hK K;refine⟨i+1,by show i+1≤_;omega,by show ws.length-(i+1)<ws.length-i;omega,?_⟩;refine ag [] [] ?_ ?_ ?_ ?_ (eX.fQ (by simp)) ?_
    all_goals simp[eN]
  ·simp  at hk;have tJ:i=ws.length:=by omega
   subst tJ;rw[take_length];apply aC;simp(disch:=omega) ;apply aQ;clear aQ;apply ae;intro K h;simp(disch:=omega);apply h;clear h K;apply az;simp(disch:=omega) 
attribute [-simp] getD_eq_getElem?_getD in
theorem D6 (L:List Dc)(f:Int)(hL:L.length≤1000000)(hs:∀d∈L,wa d)(hn:∀d∈L,d.ns.length≤1000000)(hi:(fe L f).length≤1000000)(H:List aA)(T:ar)(tg:Tag):aq Tryz.prog 69 [.sl L.length (aM L) tg,.int .i64 f] H T (Is (.sl (di (fe L f)).length (aU (di (fe L f))) .none) H T):=by
 refine aq.cD ?_;refine aq.cH ?_ (by simp);rw[HK] at *;refine aj 11 [] Tryz.ntmps69 Tryz.func69 rfl (fun _ _=>Tryz.call69 _ _) (by simp) (fun HO=>?_);apply ae;intro K h;simp(disch:=omega);apply h;clear h K;apply ae;intro K h;simp(disch:=omega);apply h;clear h K;refine af fun K1 aQ=>?_;apply ae;intro K h;simp(disch:=omega);apply h;clear h K;apply ah;refine aG (X:=Nat) (fun k=>⟨[(0,.sl L.length (aM L) .none),(1,.int .i64 f),(5,.sl (di ((L.take k).flatMap (pO f))).length (aU (di ((L.take k).flatMap (pO f)))) .none),(6,.int .i64 (k:Nat))],H,T⟩)
  (fun k=>k≤L.length) (fun k=>L.length-k) 0 ?_ ?_ ?_
 ·exact zero_le _
 ·refine ag [] [] ?_ ?_ ?_ ?_ HO ?_
  all_goals simp[di,uT]
 ·intro k h1;refine af fun K2 aW=>?_;apply ae;intro K h;simp(disch:=omega);apply h;clear h K;refine aN rfl (fun hk=>?_) (fun hk=>?_)
  ·simp  at hk;have fP:=(jc L k hk).1;have bA:=iz L k hk;have kL:(L.take (k+1)).flatMap (pO f)=(L.take k).flatMap (pO f)++(zm (L.getD k d0).ns f).map fun n=>(n,(L.getD k d0).id):=by rw[bf L k d0 hk,flatMap_append];simp[pO]
   have lN:((L.take k).flatMap (pO f)).length+(zm (L.getD k d0).ns f).length≤1000000:=by
    have h3:L.flatMap (pO f)=(L.take k).flatMap (pO f)++(pO f (L.getD k d0)++(L.drop (k+1)).flatMap (pO f)):=by
     conv=>lhs;rw[←take_append_drop k L,da L k d0 hk,flatMap_append,flatMap_cons]
    rw[h3,length_append,length_append] at hi;have h4:(pO f (L.getD k d0)).length=(zm (L.getD k d0).ns f).length:=by simp[pO]
    omega
   have c0:=fun H T=>Hp (L.getD k d0) (hs _ (aR L k d0 hk)) (le_trans (hn _ (aR L k d0 hk)) (by omega)) f H T;generalize (L.take k).flatMap (pO f)=pre at *;generalize zm (L.getD k d0).ns f=nl at *;generalize L.getD k d0=x at *;have cC:(nl.map fun n=>(n,x.id)).length=nl.length:=by simp
   have Zw:∀m,m<nl.length→(nl.map fun n=>(n,x.id)).getD m n0=(nl.getD m 0,x.id):=fun m hm=>by
    rw[getD_eq_getElem?_getD,List.getElem?_map,getD_eq_getElem?_getD,List.getElem?_eq_getElem hm];rfl
   generalize nl.map (fun n=>(n,x.id))=il at *;apply ai;simp(disch:=omega) ;apply aW;clear aW;refine af fun K3 bz=>?_;apply ah;refine ae fun K hK=>?_;simp(disch:=omega)[bA,bD,hk];refine ak (c0 _ _) ?_;simp(disch:=omega) ;apply hK;clear hK K;apply ae;intro K h;simp(disch:=omega);apply h;clear h K;apply ah;refine aG (X:=Nat) (fun m=>⟨[(0,.sl L.length (aM L) .none),(1,.int .i64 f),(5,.sl (di (pre++il.take m)).length (aU (di (pre++il.take m))) .none),(6,.int .i64 (k:Nat)),(7,.sl nl.length (ints nl) .none),(8,.int .i64 (m:Nat))],H,T⟩)
    (fun m=>m≤nl.length) (fun m=>nl.length-m) 0 ?_ ?_ ?_
   ·exact zero_le _
   ·refine ag [] [] ?_ ?_ ?_ ?_ HO ?_
    all_goals simp
   ·intro m FI;refine af fun K4 eV=>?_;apply ae;intro K h;simp(disch:=omega);apply h;clear h K;refine aN rfl (fun hm=>?_) (fun hm=>?_)
    ·simp  at hm;have CO:=aS hm;have Jh:pre++il.take (m+1)=(pre++il.take m)++[(nl.getD m 0,x.id)]:=by rw[bf il m n0 (by omega),Zw m hm,append_assoc]
     have aaF:(di (pre++il.take m)).length≤1000000:=by rw[(eZ _).length_eq,length_append,length_take];omega
     generalize pre++il.take m=pm at *;have Jg:di (pre++il.take (m+1))=lO (nl.getD m 0,x.id) (di pm):=by rw[Jh];exact B4 _ _
     generalize di pm=d at *;generalize nl.getD m 0=nv at *;apply ai;simp(disch:=omega) ;apply eV;clear eV;refine af fun K4 eV=>?_;apply ah;refine aI [10,11] [0,0,0,0,0,0,0,0,0,0,0,1] [[0,1,2,3,4,5,6,7,8,9],[]] al (by kernel_rfl) (by kernel_rfl) fun K hK=>?_;simp(disch:=omega)[CO,fP,eG,bD,hk,hm];apply hK;clear hK K;have pj:bC (H++[.cells (vQ (nv,x.id))]) T:=HO.snoc (by simp);rw[show aA.cells [.int .i64 nv,.int .i64 x.id]=.cells (vQ (nv,x.id)) from rfl];apply ae;intro K h;simp(disch:=omega);apply h;clear h K;refine af fun K5 gC=>?_;apply ah;refine aG (X:=Nat) (fun n=>⟨[(0,.sl L.length (aM L) .none),(1,.int .i64 f),(5,.sl d.length (aU d) .none),(6,.int .i64 (k:Nat)),(7,.sl nl.length (ints nl) .none),(8,.int .i64 (m:Nat)),(9,.ptr H.length 0),(10,.int .i64 (n:Nat))],H++[.cells (vQ (nv,x.id))],T⟩)
      (fun n=>n≤d.length∧∀j,j<n→cP (d.getD j n0) (nv,x.id)=true) (fun n=>d.length-n) 0 ?_ ?_ ?_
     ·exact⟨zero_le _,fun j hj=>absurd hj (not_lt_zero _)⟩
     ·refine ag [] [] ?_ ?_ ?_ ?_ pj ?_
      all_goals simp
     ·rintro n ⟨zp,wF⟩;have go:(n<d.length→cP (d.getD n n0) (nv,x.id)=false)→∀e,bt (H.length+1) T.length e [(0,.sl L.length (aM L) .none),(1,.int .i64 f),(5,.sl d.length (aU d) .none),(6,.int .i64 (k:Nat)),(7,.sl nl.length (ints nl) .none),(8,.int .i64 (m:Nat)),(9,.ptr H.length 0),(10,.int .i64 (n:Nat))]→
        K5 ⟨e,H++[.cells (vQ (nv,x.id))],T⟩:=by
       intro sY e he;have uk:=Fb (nv,x.id) d n zp wF sY;refine gC _ (aH ⟨[(0,.sl L.length (aM L) .none),(1,.int .i64 f),(5,.sl d.length (aU d) .none),(6,.int .i64 (k:Nat)),(7,.sl nl.length (ints nl) .none),(8,.int .i64 (m:Nat)),(9,.ptr H.length 0),(10,.int .i64 (n:Nat))],H++[.cells (vQ (nv,x.id))],T⟩ (ag [] [] (by simp) (by simp) (by simp) (by simp) pj (by simpa using he)) ?_);have ht:=NK d n;have oH:=Hs d n;have aZ:(aU (d.take n)).length=n*2:=by rw[bG,length_take];omega
       have Oz:(aU (d.drop n)).length=(d.length-n)*2:=by rw[bG,length_drop]
       have eN:(aU (d.drop n)).take ((d.length-n)*2)=aU (d.drop n):=by rw[←Oz,take_length]
       have tt:aU (d.take n)++.int .i64 nv::.int .i64 x.id::aU (d.drop n)=aU (lO (nv,x.id) d):=by rw[uk];simp[aU]
       have hlen:n+1+(d.length-n)=(lO (nv,x.id) d).length:=by rw[uk];simp;omega
       refine bZ [4,7,11] [0,0,0,0,0,0,0,1,0,0,0,2,3] [[],[],[]] al (by kernel_rfl) (by kernel_rfl) fun K hK=>?_;simp(disch:=omega)[dR,bG,ht,oH,aZ,Oz,eN];rw[tt,hlen];apply hK;clear hK K;apply eV;clear eV;refine au fun K hK=>?_;simp(disch:=omega) ;apply hK;clear hK K;refine⟨m+1,by show m+1≤_;omega,by show nl.length-(m+1)<nl.length-m;omega,?_⟩;simp only[Jg];refine ag [.cells (vQ (nv,x.id))] [((lO (nv,x.id) d).length*2,2)] ?_ ?_ ?_ ?_ HO ?_
       all_goals simp
      clear gC;refine af fun K6 iH=>?_
      by_cases sY:n<d.length
      ·have Ab:=eA d n sY;have eM:cP (d.getD n n0) (nv,x.id)=true→∀j,j<n+1→cP (d.getD j n0) (nv,x.id)=true:=fun h j hj=>by
        rcases lt_or_ge j n with h3|h3
        ·exact wF j h3
        ·have:j=n:=by omega
         subst this;exact h
       have c:=sM (d.getD n n0) (nv,x.id) (H++[.cells (vQ (nv,x.id))]) T;generalize d.getD n n0=y at *;have b4:decide ((n:Int)<d.length)=true:=decide_eq_true (by omega)
       cases ha:cP y (nv,x.id) with
       |true=>
        rw[ha] at c;refine aI [] [] [] al (by kernel_rfl) (by kernel_rfl) fun K hK=>?_;simp(disch:=omega)[b4,sY,Ab,bG];refine aB (c) rfl ?_;simp(disch:=omega) ;apply hK;clear hK K;apply aF rfl;apply ai;simp(disch:=omega) ;apply iH;clear iH;apply ah;refine au fun K hK=>?_;simp(disch:=omega) ;apply hK;clear hK K;refine⟨n+1,⟨by show n+1≤_;omega,eM ha⟩,by show d.length-(n+1)<d.length-n;omega,?_⟩;refine ag [] [] ?_ ?_ ?_ ?_ pj ?_
        all_goals simp
       |false=>
        rw[ha] at c;refine aI [] [] [] al (by kernel_rfl) (by kernel_rfl) fun K hK=>?_;simp(disch:=omega)[b4,sY,Ab,bG];refine aB (c) rfl ?_;simp(disch:=omega) ;apply hK;clear hK K;apply aD rfl;apply aC;simp(disch:=omega) ;refine go (fun _=>ha) _ ?_;simp
      ·have b4:decide ((n:Int)<d.length)=false:=decide_eq_false (by omega);refine aI [] [] [] al (by kernel_rfl) (by kernel_rfl) fun K hK=>?_;simp(disch:=omega)[b4,sY];apply hK;clear hK K;apply aD rfl;apply aC;simp(disch:=omega) ;refine go (fun h=>absurd h sY) _ ?_;simp
    ·simp  at hm;have e:m=nl.length:=by omega
     subst e;rw[show il.take nl.length=il by rw[←cC,take_length],←kL];apply aC;simp(disch:=omega) ;apply bz;clear bz;refine au fun K hK=>?_;simp(disch:=omega) ;apply hK;clear hK K;refine⟨k+1,by show k+1≤_;omega,by show L.length-(k+1)<L.length-k;omega,?_⟩;refine ag [] [] ?_ ?_ ?_ ?_ HO ?_
     all_goals simp
  ·simp  at hk;have e:k=L.length:=by omega
   subst e;rw[take_length];apply aC;simp(disch:=omega) ;apply aQ;clear aQ;apply ae;intro K h;simp(disch:=omega);apply h;clear h K;apply az;simp(disch:=omega) 
end Go.Proofs.YtneohapkboaplaaGreat
namespace eJ
open iF Go.Am Go.Proofs.YtneohapkboaplaaGreat
structure Rw where
 k:Ky
 pl:List Ps
 tg:Tag
abbrev YW (r:Rw):List AV:=[.int .i64 r.k.1,.str r.k.2,.sl r.pl.length (bp r.pl) r.tg]
def kM (l:List Rw):List AV:=l.flatMap YW
theorem EW:eC YW 3:=fun _=>rfl
theorem od (l:List Rw):(kM l).length=l.length*3:=b9 EW l
theorem uP (R1 R2:List Rw)(r:Rw)(rest:List AV):kM (R1++r::R2)++rest=kM R1++(.int .i64 r.k.1::.str r.k.2::.sl r.pl.length (bp r.pl) r.tg::(kM R2++rest)):=by simp[kM]
theorem T3 (R1 R2:List Rw)(r:Rw)(rest:List AV):(kM (R1++r::R2)++rest).getD (R1.length*3) .top=.int .i64 r.k.1∧(kM (R1++r::R2)++rest).getD (R1.length*3+1) .top=.str r.k.2∧(kM (R1++r::R2)++rest).getD (R1.length*3+2) .top=.sl r.pl.length (bp r.pl) r.tg:=by
 rw[uP];have h:=od R1;have key:∀(j:Nat)(X:List AV),(kM R1++X).getD (R1.length*3+j) .top=X.getD j .top:=fun j X=>by
  rw[getD_eq_getElem?_getD,List.getElem?_append_right (by omega),getD_eq_getElem?_getD];congr 2;omega
 exact⟨key 0 _,key 1 _,key 2 _⟩
theorem QD (R1 R2:List Rw)(r:Rw)(rest:List AV)(pl:List Ps)(tg:Tag):(kM (R1++r::R2)++rest).set (R1.length*3+2) (.sl pl.length (bp pl) tg)=kM (R1++⟨r.k,pl,tg⟩::R2)++rest:=by
 rw[uP,uP,List.set_append_right _ _ (by rw[od];omega),od]
 congr 1
 rw[show R1.length*3+2-R1.length*3=2 by omega];rfl
def CK (r:Rw):List (Nat×(Nat×Nat)):=match r.tg with
 |.own tk=>[(tk,(r.pl.length*2,2))]
 |_=>[]
def gY (R:List Rw):List (Nat×(Nat×Nat)):=R.flatMap CK
def Qt (r:Rw):Prop:=(r.tg=.full∧r.pl=[])∨∃tk,r.tg=.own tk
def yo (d:Dc)(k:Ky):List Int:=j9 (nA d.zs k.1) k.2
def pM (d:Dc)(k:Ky):List Ps:=if yo d k=[] then [] else [(d.id,yo d k)]
end eJ
namespace Go.Proofs.YtneohapkboaplaaGreat
open Go Go.Am iF eJ
attribute [-simp] getD_eq_getElem?_getD in
theorem KI (L:List Dc)(i:Nat)(hi:i<L.length)(hs:wa (L.getD i d0))(Iy:∀z∈(L.getD i d0).zs,z.ws.length≤1000000)(R1 R2:List Rw)(r:Rw)(hr:Qt r)(CC:r.pl.length≤1000000)(H:List aA)(T:ar)(nb tb b2 b6 td tc it n:Nat)(hn:n=R1.length+1+R2.length)
  (dv cv:AV) (B0:aA) (rest:List AV) (J:List aA) (U:ar) (RU:List (Nat×(Nat×Nat))) (fO:nb≤J.length) (eS:tb≤U.length) (wH:H.length≤it)
  (hJ:Has J ((b2,B0)::(b6,.cells [dv,.bV it 0 n,cv])::[(it,.cells (kM (R1++r::R2)++rest))])) (hU:Has U (RU++gY (R1++r::R2))) (IH:eT H J) (wJ:eT T U) (htT:∀tk,r.tg=.own tk→T.length≤tk) (HO:bC J U) (Q:Exit→St→Prop)
  (go:∀(e:Env)(J':List aA)(U':ar)(r':Rw),r'.k=r.k→r'.pl=r.pl++pM (L.getD i d0) r.k→Qt r'→(∀tk,r'.tg=.own tk→T.length≤tk)→Has J' ((b2,B0)::(b6,.cells [dv,.bV it 0 n,cv])::[(it,.cells (kM (R1++r'::R2)++rest))])→
   Has U' (RU++gY (R1++r'::R2))→eT H J'→eT T U'→J'.length=J.length→U.length≤U'.length→bt J'.length U'.length e [(0,.sl L.length (aM L) .none),(2,.ptr b2 0),(6,.ptr b6 0),(7,.int .i64 (i:Nat)),(8,.int .i64 (R1.length:Nat))]→Q .normal ⟨e,J',U'⟩) :
  AW ⟨Tryz.prog,135,12,nb,tb,[]⟩ (du [1,1,1,1,1,1,0,1,0,0,1,0,0,1,1,0,0,1,0,0] (Tryz.f14.body.getD .skip)) Q
   ⟨[(0,.sl L.length (aM L) .none),(2,.ptr b2 0),(6,.ptr b6 0),(7,.int .i64 (i:Nat)),(8,.int .i64 (R1.length:Nat))],J,U⟩:=by
 conv=>arg 2;whnf
 have bA:=iz L i hi;have IE:=(jc L i hi).1;have c:=wx (L.getD i d0) hs Iy r.k.1 r.k.2 J U;have Pv:pM (L.getD i d0) r.k=if yo (L.getD i d0) r.k=[] then [] else [((L.getD i d0).id,yo (L.getD i d0) r.k)]:=rfl
 rw[show j9 (nA (L.getD i d0).zs r.k.1) r.k.2=yo (L.getD i d0) r.k from rfl] at c;have acd:(yo (L.getD i d0) r.k).length≤1000000:=by
  unfold yo j9;rw[length_map];refine le_trans (length_filter_le _ _) ?_;have key:∀zs:List Zn,(∀z∈zs,z.ws.length≤1000000)→(nA zs r.k.1).length≤1000000:=by
   intro zs
   induction zs with
   |nil=>intro _;simp[nA]
   |cons z q ih=>
    intro h;unfold nA
    split
    ·exact h z (by simp)
    ·exact ih fun y hy=>h y (by simp[hy])
  exact key _ Iy
 generalize yo (L.getD i d0) r.k=ps at *;generalize pM (L.getD i d0) r.k=pr at *;generalize L.getD i d0=d at *;have g6:=hJ.get (i:=b6) (b:=.cells [dv,.bV it 0 n,cv]) (by simp);have git:=hJ.get (i:=it) (b:=.cells (kM (R1++r::R2)++rest)) (by simp);have l2:=hJ.lt (i:=b2) (b:=B0) (by simp);have e6:=aV g6;have ZV:=aV git;have l6:=(List.getElem?_eq_some_iff.1 g6).1;have lit:=(List.getElem?_eq_some_iff.1 git).1;obtain⟨v0,v1,v2⟩:=T3 R1 R2 r rest;have Tg:=QD R1 R2 r rest;have ab6:R1.length*3+3≤(kM (R1++r::R2)++rest).length:=by rw[length_append,od];simp;omega
 have Ew:R1.length<n:=by omega
 generalize Iz:kM (R1++r::R2)++rest=vs at *;have d0':R1.length*3<vs.length:=by omega
 have d1':R1.length*3+1<vs.length:=by omega
 have d2':R1.length*3+2<vs.length:=by omega
 have e1:R1.length*3+1=1+R1.length*3:=by omega
 refine aI [] [] [] al (by kernel_rfl) (by kernel_rfl) fun K hK=>?_;simp(disch:=omega)[e6,l6,ZV,lit,bA,bD,hi,Ew,v0,v1,d0',d1'];refine aB (c) rfl ?_;simp(disch:=omega) ;apply hK;clear hK K;refine aH ⟨[(0,.sl L.length (aM L) .none),(2,.ptr b2 0),(6,.ptr b6 0),(7,.int .i64 (i:Nat)),(8,.int .i64 (R1.length:Nat)),(9,.sl ps.length (ints ps) .none)],J,U⟩ (ag [] [] (by simp) (by simp) fO eS HO (by simp[l2,l6])) ?_
 by_cases pt:ps=[]
 ·subst pt;apply ae;intro K h;simp(disch:=omega);apply h;clear h K;apply aD rfl;apply ai;refine go _ J U r rfl (by rw[Pv,if_pos rfl,append_nil]) hr htT (by rw[Iz];exact hJ) hU IH wJ rfl (le_refl _) ?_;simp[l2,l6]
 have aai:0<ps.length:=by
  rcases eq_zero_or_pos ps.length with h|h
  ·exact absurd (List.length_eq_zero_iff.1 h) pt
  ·exact h
 have b1:decide ((0:Int)<(ps.length:Int))=true:=decide_eq_true (by omega);rw[if_neg pt] at Pv;refine ae fun K hK=>?_;simp(disch:=omega)[b1,aai];apply hK;clear hK K;apply aF rfl;rcases hr with⟨vV,mN⟩|⟨tk,vV⟩
 ·rw[vV,mN] at v2;have Rb:=Tg [(d.id,ps)] (.own U.length);rw[show bp [(d.id,ps)]=[.int .i64 d.id,.sl ps.length (ints ps) .none] from rfl,show [(d.id,ps)].length=1 from rfl] at Rb;refine bZ [17,20] [0,0,0,0,0,0,0,0,0,0,0,0,0,0,0,0,0,0,1,1,1] [[0,1,2],[]] al (by kernel_rfl) (by kernel_rfl) fun K hK=>?_;simp(disch:=omega)[e6,l6,ZV,lit,IE,bD,hi,Ew,v2,d2',uQ];rw[Rb];have gL:=Has.set (A:=[(b2,B0),(b6,.cells [dv,.bV it 0 n,cv])]) (B:=[]) (b:=.cells vs) hJ (.cells (kM (R1++⟨r.k,[(d.id,ps)],.own U.length⟩::R2)++rest));have rC:Has (U++[(2,2)]) (RU++gY (R1++⟨r.k,[(d.id,ps)],.own U.length⟩::R2)):=by
   refine(hU.new (2,2)).perm ?_;have h1:gY (R1++⟨r.k,[(d.id,ps)],.own U.length⟩::R2)=gY R1++(U.length,(2,2))::gY R2:=by simp[gY,CK]
   have h2:gY (R1++r::R2)=gY R1++gY R2:=by simp[gY,CK,vV]
   rw[h1,h2];have h3:RU++(gY R1++(U.length,(2,2))::gY R2)=(RU++gY R1)++(U.length,(2,2))::gY R2:=by simp
   rw[h3];refine List.perm_middle.trans ?_;refine(List.perm_append_singleton _ _).symm.trans ?_;simp
  have Zl:=wJ.le;refine hK _ ?_;refine go _ _ _ ⟨r.k,[(d.id,ps)],.own U.length⟩ rfl (by rw[mN,Pv];rfl) (.inr ⟨_,rfl⟩) (fun tk h=>by injection h with h;omega) gL rC (IH.set wH _) (wJ.app _) (by simp) (by simp) ?_;simp[l2,l6]
 ·have gU:=hU.get (i:=tk) (b:=(r.pl.length*2,2)) (by simp[gY,CK,vV]);have eU:=aV gU;have lU:=(List.getElem?_eq_some_iff.1 gU).1;rw[vV] at v2;have Rb:=Tg (r.pl++[(d.id,ps)]) (.own tk);rw[show bp (r.pl++[(d.id,ps)])=bp r.pl++[.int .i64 d.id,.sl ps.length (ints ps) .none] by simp[bp],show (r.pl++[(d.id,ps)]).length=r.pl.length+1 by simp] at Rb;refine bZ [17,20] [0,0,0,0,0,0,0,0,0,0,0,0,0,0,0,0,0,0,1,1,1] [[0,1,2],[]] al (by kernel_rfl) (by kernel_rfl) fun K hK=>?_;simp(disch:=omega)[e6,l6,ZV,lit,IE,bD,hi,Ew,v2,d2',aY,eU,lU];rw[Rb];have gL:=Has.set (A:=[(b2,B0),(b6,.cells [dv,.bV it 0 n,cv])]) (B:=[]) (b:=.cells vs) hJ (.cells (kM (R1++⟨r.k,r.pl++[(d.id,ps)],.own tk⟩::R2)++rest));have rC:Has (U.set tk ((r.pl.length+1)*2,2)) (RU++gY (R1++⟨r.k,r.pl++[(d.id,ps)],.own tk⟩::R2)):=by
   have h1:RU++gY (R1++⟨r.k,r.pl++[(d.id,ps)],.own tk⟩::R2)=(RU++gY R1)++(tk,((r.pl.length+1)*2,2))::gY R2:=by simp[gY,CK]
   have h2:RU++gY (R1++r::R2)=(RU++gY R1)++(tk,(r.pl.length*2,2))::gY R2:=by simp[gY,CK,vV]
   rw[h1];rw[h2] at hU;exact hU.set _
  have eN:=htT tk vV;refine hK _ ?_;refine go _ _ _ ⟨r.k,r.pl++[(d.id,ps)],.own tk⟩ rfl (by rw[Pv]) (.inr ⟨_,rfl⟩) (fun Cn h=>by injection h with h;omega) gL rC (IH.set wH _) (wJ.set eN _) (by simp) (by simp) ?_;simp[l2,l6]
end Go.Proofs.YtneohapkboaplaaGreat
namespace eJ
open iF Go.Am Go.Proofs.YtneohapkboaplaaGreat
def Tb (h0:Nat)(R:List Rw)(tv:AV)(TB:List (Nat×aA)):Prop:=(R=[]∧tv=.sl 0 [] .none∧TB=[])∨∃it rest,tv=.bV it 0 R.length∧TB=[(it,.cells (kM R++rest))]∧h0≤it
structure RI (H:List aA)(T:ar)(b2 b6:Nat)(RU:List (Nat×(Nat×Nat)))(dv tv cv:AV)(B0:aA)(R:List Rw)(J:List aA)(U:ar):Prop where
 hJ:∃TB,Tb H.length R tv TB∧Has J ((b2,B0)::(b6,.cells [dv,tv,cv])::TB)
 hU:Has U (RU++gY R)
 hr:∀r∈R,Qt r∧∀tk,r.tg=.own tk→T.length≤tk
 pJ:eT H J
 pU:eT T U
abbrev rw0:Rw:=⟨k0,[],.full⟩
def kp (R:List Rw):List (Ky×List Ps):=R.map fun r=>(r.k,r.pl)
def wN (d:Dc)(x:Ky×List Ps):Ky×List Ps:=(x.1,x.2++pM d x.1)
theorem rK (R:List Rw):(kp R).length=R.length:=by simp[kp]
def ff (L:List Dc)(c:Nat):List Cl:=(List.range c).flatMap fun(c:Nat)=>mq L (5+(c:Int))
theorem mc (L:List Dc)(c:Nat):ff L (c+1)=ff L c++mq L (5+(c:Int)):=by unfold ff;rw[List.range_succ,flatMap_append];simp
theorem Bl (L:List Dc):∀c,(ff L c).length≤c
 |0=>by simp[ff]
 |c+1=>by
  have:=Bl L c;have h2:(mq L (5+(c:Int))).length≤1:=by unfold mq;split<;>simp
  rw[mc,length_append];omega
end eJ
namespace Go.Proofs.YtneohapkboaplaaGreat
open Go Go.Am iF eJ
attribute [-simp] getD_eq_getElem?_getD in
theorem G8 (L:List Dc)(i:Nat)(hi:i<L.length)(hs:wa (L.getD i d0))(Iy:∀z∈(L.getD i d0).zs,z.ws.length≤1000000)(H:List aA)(T:ar)(nb tb b2 b6 td tc:Nat)(dv tv cv:AV)(B0:aA)(RU:List (Nat×(Nat×Nat)))(R:List Rw)(J:List aA)(U:ar)(fO:nb≤J.length)(eS:tb≤U.length)
  (FP:RI H T b2 b6 RU dv tv cv B0 R J U) (CC:∀x∈kp R,x.2.length≤1000000) (hRl:R.length≤1000000) (HO:bC J U) (Q:Exit→St→Prop)
  (go:∀(e:Env)(J':List aA)(U':ar)(R':List Rw),RI H T b2 b6 RU dv tv cv B0 R' J' U'→kp R'=(kp R).map (wN (L.getD i d0))→J'.length=J.length→U.length≤U'.length→
   bt J'.length U'.length e [(0,.sl L.length (aM L) .none),(2,.ptr b2 0),(6,.ptr b6 0),(7,.int .i64 (i:Nat))]→Q .normal ⟨e,J',U'⟩) :
  AW ⟨Tryz.prog,135,12,nb,tb,[]⟩ (du [1,1,1,1,1,1,0,1,0,0,1,0,0,1] (Tryz.f14.body.getD .skip)) Q
   ⟨[(0,.sl L.length (aM L) .none),(2,.ptr b2 0),(6,.ptr b6 0),(7,.int .i64 (i:Nat))],J,U⟩:=by
 conv=>arg 2;whnf
 have hb:∀{R' J' U'},RI H T b2 b6 RU dv tv cv B0 R' J' U'→b2<J'.length∧b6<J'.length:=fun h=>by
  obtain⟨TB,_,h2⟩:=h.hJ;exact⟨h2.lt (b:=B0) (by simp),h2.lt (b:=.cells [dv,tv,cv]) (by simp)⟩
 obtain⟨m2,m6⟩:=hb FP;apply ae;intro K h;simp(disch:=omega);apply h;clear h K;apply ah;refine aG (X:=Nat×List aA×ar×List Rw) (fun x=>⟨[(0,.sl L.length (aM L) .none),(2,.ptr b2 0),(6,.ptr b6 0),(7,.int .i64 (i:Nat)),(8,.int .i64 (x.1:Nat))],x.2.1,x.2.2.1⟩)
  (fun x=>x.1≤R.length∧RI H T b2 b6 RU dv tv cv B0 x.2.2.2 x.2.1 x.2.2.1∧kp x.2.2.2=((kp R).take x.1).map (wN (L.getD i d0))++(kp R).drop x.1∧x.2.1.length=J.length∧U.length≤x.2.2.1.length∧bC x.2.1 x.2.2.1) (fun x=>R.length-x.1) (0,J,U,R) ?_ ?_ ?_
 ·exact⟨zero_le _,FP,by simp,rfl,le_refl _,HO⟩
 ·refine ag [] [] (by simp) (by simp) fO eS HO ?_;simp[m2,m6]
 ·rintro⟨kk,J1,U1,R3⟩ ⟨g1,g2,g3,g4,g5,g6⟩;simp only at g1 g2 g3 g4 g5 g6;obtain⟨n2,n6⟩:=hb g2;have hlen:R3.length=R.length:=by
   have:=congrArg List.length g3;rw[rK,length_append,length_map,length_take,length_drop,rK] at this;omega
  obtain⟨TB,PC,OF⟩:=g2.hJ;have e6:=aV (OF.get (i:=b6) (b:=.cells [dv,tv,cv]) (by simp));refine af fun K5 gC=>?_;rcases PC with⟨h1,IV,_⟩|⟨it,rest,IV,aaP,wH⟩
  ·subst IV;have hR0:R.length=0:=by rw[←hlen,h1];rfl
   have Mt:kk=0:=by omega
   subst Mt;refine ae fun K hK=>?_;simp(disch:=omega)[e6,n6];apply hK;clear hK K;apply aD rfl;apply aC;simp(disch:=omega) ;refine go _ J1 U1 R3 g2 (by rw[h1,List.length_eq_zero_iff.1 hR0];rfl) g4 g5 ?_;simp[n2,n6]
  ·rw[hlen] at IV;subst IV;subst aaP;refine ae fun K hK=>?_;simp(disch:=omega)[e6,n6];apply hK;clear hK K;refine aN rfl (fun hk=>?_) (fun hk=>?_)
   ·simp  at hk;obtain⟨R1,r,R2,hR3,hR1⟩:∃R1 r R2,R3=R1++r::R2∧R1.length=kk:=⟨R3.take kk,R3.getD kk rw0,R3.drop (kk+1),by rw[←da R3 kk rw0 (by omega),take_append_drop],by rw[length_take];omega⟩
    subst hR1;subst hR3;have gB:R1.length<(kp R).length:=by rw[rK];exact hk
    have CA:kp R1++(r.k,r.pl)::kp R2=((kp R).take R1.length).map (wN (L.getD i d0))++(kp R).drop R1.length:=by rw[←g3];simp[kp]
    obtain⟨hA,hB⟩:=List.append_inj CA (by rw[rK,length_map,length_take];omega);rw[da (kp R) R1.length (k0,[]) gB] at hB;obtain⟨hx,Ct⟩:=List.cons.inj hB;have iR:(r.k,r.pl)∈kp R:=by rw[hx];exact aR (kp R) R1.length (k0,[]) gB
    have hn:R.length=R1.length+1+R2.length:=by rw[←hlen];simp;omega
    obtain⟨vV,mN⟩:=g2.hr r (by simp);apply ai;apply gC;clear gC;refine af fun K6 iH=>?_;apply ah;refine aH ⟨[(0,.sl L.length (aM L) .none),(2,.ptr b2 0),(6,.ptr b6 0),(7,.int .i64 (i:Nat)),(8,.int .i64 (R1.length:Nat))],J1,U1⟩ (ag [] [] (by simp) (by simp) (by show nb≤J1.length;omega) (by show tb≤U1.length;omega) g6 (by simp[n2,n6])) ?_;refine KI L i hi hs Iy R1 R2 r vV (CC _ iR) H T nb tb b2 b6 td tc it R.length hn dv cv B0 rest J1 U1 RU (by omega) (by omega) wH OF g2.hU g2.pJ g2.pU mN g6 _ fun e J2 U2 r' q1 q2 q3 q4 q5 q6 q7 q8 q9 YX he=>?_;have p2:b2<J2.length:=by omega
    have p6:b6<J2.length:=by omega
    refine iH _ (cZ fun dy=>?_);refine aH ⟨[(0,.sl L.length (aM L) .none),(2,.ptr b2 0),(6,.ptr b6 0),(7,.int .i64 (i:Nat)),(8,.int .i64 (R1.length:Nat))],J2,U2⟩ (ag [] [] (by simp) (by simp) (by show nb≤J2.length;omega) (by show tb≤U2.length;omega) dy he) ?_;refine au fun K hK=>?_;simp(disch:=omega) ;apply hK;clear hK K;have Uo:R.length=(R1++r'::R2).length:=by rw[hn];simp;omega
    refine⟨(R1.length+1,J2,U2,R1++r'::R2),⟨by show R1.length+1≤_;omega,⟨⟨_,.inr ⟨it,rest,by rw[←Uo],rfl,wH⟩,q5⟩,q6,fun x Ix=>?_,q7,q8⟩,?_,by show J2.length=_;omega,by show _≤U2.length;omega,dy⟩,by show R.length-(R1.length+1)<R.length-R1.length;omega,?_⟩
    ·rcases List.mem_append.1 Ix with Ix|Ix
     ·exact g2.hr x (by simp[Ix])
     ·rcases List.mem_cons.1 Ix with rfl|Ix
      ·exact⟨q3,q4⟩
      ·exact g2.hr x (by simp[Ix])
    ·show kp (R1++r'::R2)=((kp R).take (R1.length+1)).map (wN (L.getD i d0))++(kp R).drop (R1.length+1);rw[bf (kp R) R1.length (k0,[]) gB,map_append,←hA,←Ct,←hx];simp[kp,wN,q1,q2]
    ·refine ag [] [] (by simp) (by simp) (by show nb≤J2.length;omega) (by show tb≤U2.length;omega) dy ?_;simp[p2,p6]
   ·simp  at hk;have CE:kk=R.length:=by omega
    subst CE;apply aC;simp(disch:=omega) ;refine go _ J1 U1 R3 g2 ?_ g4 g5 ?_
    ·rw[g3,←rK R,take_length,List.drop_length,append_nil]
    ·simp[n2,n6]
end Go.Proofs.YtneohapkboaplaaGreat
namespace eJ
open iF Go.Am Go.Proofs.YtneohapkboaplaaGreat
theorem AJ (k:Ky):∀l:List Dc,(l.flatMap fun d=>pM d k).length≤l.length
 |[]=>by simp
 |d::l=>by
  have:=AJ k l;have h2:(pM d k).length≤1:=by unfold pM;split<;>simp
  rw[flatMap_cons,length_append,length_cons];omega
end eJ
namespace Go.Proofs.YtneohapkboaplaaGreat
open Go Go.Am iF eJ
attribute [-simp] getD_eq_getElem?_getD in
theorem D3 (L:List Dc)(hL:L.length≤1000000)(hs:∀d∈L,wa d)(Iy:∀d∈L,∀z∈d.zs,z.ws.length≤1000000)(H:List aA)(T:ar)(nb tb b2 b6 td tc:Nat)(tv cv:AV)(B0:aA)(ks:List Ky)(R:List Rw)(J:List aA)(U:ar)(fO:nb≤J.length)(eS:tb≤U.length)
  (FP:RI H T b2 b6 [(td,(0,1)),(tc,(0,2))] (.sl 0 [] (.own td)) tv cv B0 R J U) (Mt:kp R=ks.map fun k=>(k,[])) (gB:ks.length≤1000000) (Cr:H.length≤b6) (Ri:T.length≤td) (HO:bC J U) (Q:Exit→St→Prop)
  (go:∀(e:Env)(J':List aA)(U':ar)(R':List Rw),RI H T b2 b6 [(td,(L.length,1)),(tc,(0,2))] (.sl L.length (ints (L.map (·.id))) (.own td)) tv cv B0 R' J' U'→kp R'=ks.map (fun k=>(k,L.flatMap fun d=>pM d k))→J'.length=J.length→U.length≤U'.length→
   bt J'.length U'.length e [(0,.sl L.length (aM L) .none),(2,.ptr b2 0),(6,.ptr b6 0)]→Q .normal ⟨e,J',U'⟩) :
  AW ⟨Tryz.prog,135,12,nb,tb,[]⟩ (du [1,1,1,1,1,1,0] (Tryz.f14.body.getD .skip)) Q
   ⟨[(0,.sl L.length (aM L) .none),(2,.ptr b2 0),(6,.ptr b6 0)],J,U⟩:=by
 conv=>arg 2;whnf
 have hb:∀{RU dv R' J' U'},RI H T b2 b6 RU dv tv cv B0 R' J' U'→b2<J'.length∧b6<J'.length:=fun {RU dv R' J' U'} h=>by
  obtain⟨TB,_,h2⟩:=h.hJ;exact⟨h2.lt (b:=B0) (by simp),h2.lt (b:=.cells [dv,tv,cv]) (by simp)⟩
 obtain⟨m2,m6⟩:=hb FP;apply ae;intro K h;simp(disch:=omega);apply h;clear h K;apply ah;refine aG (X:=Nat×List aA×ar×List Rw) (fun x=>⟨[(0,.sl L.length (aM L) .none),(2,.ptr b2 0),(6,.ptr b6 0),(7,.int .i64 (x.1:Nat))],x.2.1,x.2.2.1⟩)
  (fun x=>x.1≤L.length∧RI H T b2 b6 [(td,(x.1,1)),(tc,(0,2))] (.sl x.1 (ints ((L.take x.1).map (·.id))) (.own td)) tv cv B0 x.2.2.2 x.2.1 x.2.2.1∧kp x.2.2.2=ks.map (fun k=>(k,(L.take x.1).flatMap fun d=>pM d k))∧x.2.1.length=J.length∧U.length≤x.2.2.1.length∧bC x.2.1 x.2.2.1) (fun x=>L.length-x.1) (0,J,U,R) ?_ ?_ ?_
 ·exact⟨zero_le _,by simpa using FP,by simpa using Mt,rfl,le_refl _,HO⟩
 ·refine ag [] [] (by simp) (by simp) fO eS HO ?_;simp[m2,m6]
 ·rintro⟨i,J1,U1,R3⟩ ⟨g1,g2,g3,g4,g5,g6⟩;simp only at g1 g2 g3 g4 g5 g6;obtain⟨n2,n6⟩:=hb g2;refine af fun K2 aW=>?_;apply ae;intro K h;simp(disch:=omega);apply h;clear h K;refine aN rfl (fun hk=>?_) (fun hk=>?_)
  ·simp  at hk;have IE:=(jc L i hk).1;obtain⟨TB,PC,OF⟩:=g2.hJ;have e6:=aV (OF.get (i:=b6) (b:=.cells [.sl i (ints ((L.take i).map (·.id))) (.own td),tv,cv]) (by simp));have gU:=g2.hU.get (i:=td) (b:=(i,1)) (by simp);have eU:=aV gU;have lU:=(List.getElem?_eq_some_iff.1 gU).1;have eN:ints ((L.take i).map (·.id))++[.int .i64 (L.getD i d0).id]=ints ((L.take (i+1)).map (·.id)):=by rw[bf L i d0 hk,map_append,cX];rfl
   have Qg:((L.take i).map (·.id)).length=i:=by rw[length_map,length_take];omega
   generalize (L.take i).map (·.id)=ids at *;generalize Uq:(L.take (i+1)).map (·.id)=rD at *;generalize (L.getD i d0).id=YT at *;have cC:(L.take i).length=i:=by rw[length_take];omega
   have Mu:∀k,(L.take (i+1)).flatMap (fun d=>pM d k)=(L.take i).flatMap (fun d=>pM d k)++pM (L.getD i d0) k:=fun k=>by rw[bf L i d0 hk,flatMap_append];simp
   apply ai;apply aW;clear aW;refine af fun K6 iH=>?_;apply ah;refine aI [8,10] [0,0,0,0,0,0,0,0,0,1,1] [[],[]] al (by kernel_rfl) (by kernel_rfl) fun K hK=>?_;simp(disch:=omega)[e6,n6,IE,bD,hk,eU,lU,Qg];apply hK;clear hK K;refine cZ fun dy=>?_;simp only at dy;have gL:=Has.set (A:=[(b2,B0)]) (B:=TB) (b:=.cells [.sl i (ints ids) (.own td),tv,cv]) OF (.cells [.sl (i+1) (ints rD) (.own td),tv,cv]);have rC:=Has.set (A:=[]) (B:=(tc,(0,2))::gY R3) (b:=(i,1)) (by simpa using g2.hU) (i+1,1);rw[←eN] at gL;have Qn:RI H T b2 b6 [(td,(i+1,1)),(tc,(0,2))] (.sl (i+1) (ints rD) (.own td)) tv cv B0 R3 (J1.set b6 (.cells [.sl (i+1) (ints ids++[.int .i64 YT]) (.own td),tv,cv])) (U1.set td (i+1,1)):=⟨⟨TB,PC,by rw[←eN];exact gL⟩,by simpa using rC,g2.hr,g2.pJ.set Cr _,g2.pU.set Ri _⟩
   have iD:(J1.set b6 (.cells [.sl (i+1) (ints ids++[.int .i64 YT]) (.own td),tv,cv])).length=J1.length:=by simp
   have Zr:(U1.set td (i+1,1)).length=U1.length:=by simp
   generalize J1.set b6 (.cells [.sl (i+1) (ints ids++[.int .i64 YT]) (.own td),tv,cv])=J2 at *;generalize U1.set td (i+1,1)=U2 at *;have p2:b2<J2.length:=by omega
   have p6:b6<J2.length:=by omega
   refine aH ⟨[(0,.sl L.length (aM L) .none),(2,.ptr b2 0),(6,.ptr b6 0),(7,.int .i64 (i:Nat))],J2,U2⟩ (ag [] [] (by simp) (by simp) (by show nb≤J2.length;omega) (by show tb≤U2.length;omega) dy (by simp[p2,p6])) ?_;refine G8 L i hk (hs _ (aR L i d0 hk)) (Iy _ (aR L i d0 hk)) H T nb tb b2 b6 td tc _ tv cv B0 _ R3 J2 U2 (by omega) (by omega) Qn (fun x hx=>?_) (by rw[←rK,g3,length_map];exact gB) dy _ fun e J3 U3 R4 q1 q2 q3 q4 he=>?_
   ·rw[g3] at hx;obtain⟨k,_,rfl⟩:=List.mem_map.1 hx;have:=AJ k (L.take i);simp only;omega
   obtain⟨r2,r6⟩:=hb q1;refine iH _ (cZ fun nG=>?_);refine aH ⟨[(0,.sl L.length (aM L) .none),(2,.ptr b2 0),(6,.ptr b6 0),(7,.int .i64 (i:Nat))],J3,U3⟩ (ag [] [] (by simp) (by simp) (by show nb≤J3.length;omega) (by show tb≤U3.length;omega) nG he) ?_;refine au fun K hK=>?_;simp(disch:=omega) ;apply hK;clear hK K;refine⟨(i+1,J3,U3,R4),⟨by show i+1≤_;omega,by simp only[Uq];exact q1,?_,by show J3.length=_;omega,by show _≤U3.length;omega,nG⟩,by show L.length-(i+1)<L.length-i;omega,?_⟩
   ·show kp R4=_;rw[q2,g3,map_map];exact List.map_congr_left fun k _=>by simp only[Function.comp,wN];rw[Mu]
   ·refine ag [] [] (by simp) (by simp) (by show nb≤J3.length;omega) (by show tb≤U3.length;omega) nG ?_;simp[r2,r6]
  ·simp  at hk;have tJ:i=L.length:=by omega
   subst tJ;rw[take_length] at g2 g3;apply aC;simp(disch:=omega) ;refine go _ J1 U1 R3 g2 g3 g4 g5 ?_;simp[n2,n6]
attribute [-simp] getD_eq_getElem?_getD in
theorem D7 (L:List Dc)(hL:L.length≤1000000)(hs:∀d∈L,wa d)(hn:∀d∈L,d.ns.length≤1000000)(hi:∀f,(fe L f).length≤1000000)(H:List aA)(T:ar)(nb tb b2 b6 td tc:Nat)(dv tv:AV)(B0:aA)(R:List Rw)(J:List aA)(U:ar)(fO:nb≤J.length)(eS:tb≤U.length)
  (FP:RI H T b2 b6 [(td,(L.length,1)),(tc,(0,2))] dv tv (.sl 0 [] (.own tc)) B0 R J U) (Cr:H.length≤b6) (WY:T.length≤tc) (HO:bC J U) (Q:Exit→St→Prop)
  (go:∀(e:Env)(J':List aA)(U':ar),RI H T b2 b6 [(td,(L.length,1)),(tc,((ff L 3).length*2,2))] dv tv (.sl (ff L 3).length (cR (ff L 3)) (.own tc)) B0 R J' U'→J'.length=J.length→U.length≤U'.length→
   bt J'.length U'.length e [(2,.ptr b2 0),(6,.ptr b6 0)]→Q .normal ⟨e,J',U'⟩) :
  AW ⟨Tryz.prog,135,12,nb,tb,[]⟩ (du [1,1,1,1,1,1,1,0] (Tryz.f14.body.getD .skip)) Q
   ⟨[(0,.sl L.length (aM L) .none),(2,.ptr b2 0),(6,.ptr b6 0)],J,U⟩:=by
 conv=>arg 2;whnf
 have hb:∀{RU cv J' U'},RI H T b2 b6 RU dv tv cv B0 R J' U'→b2<J'.length∧b6<J'.length:=fun {RU cv J' U'} h=>by
  obtain⟨TB,_,h2⟩:=h.hJ;exact⟨h2.lt (b:=B0) (by simp),h2.lt (b:=.cells [dv,tv,cv]) (by simp)⟩
 obtain⟨m2,m6⟩:=hb FP;apply ae;intro K h;simp(disch:=omega);apply h;clear h K;apply ah;refine aG (X:=Nat×List aA×ar) (fun x=>⟨[(0,.sl L.length (aM L) .none),(2,.ptr b2 0),(6,.ptr b6 0),(10,.int .i64 (5+(x.1:Nat)))],x.2.1,x.2.2⟩)
  (fun x=>x.1≤3∧RI H T b2 b6 [(td,(L.length,1)),(tc,((ff L x.1).length*2,2))] dv tv (.sl (ff L x.1).length (cR (ff L x.1)) (.own tc)) B0 R x.2.1 x.2.2∧x.2.1.length=J.length∧U.length≤x.2.2.length∧bC x.2.1 x.2.2) (fun x=>3-x.1) (0,J,U) ?_ ?_ ?_
 ·exact⟨zero_le _,by simpa[ff,Bn] using FP,rfl,le_refl _,HO⟩
 ·refine ag [] [] (by simp) (by simp) fO eS HO ?_;simp[m2,m6]
 ·rintro⟨c,J1,U1⟩ ⟨g1,g2,g4,g5,g6⟩;simp only at g1 g2 g4 g5 g6;obtain⟨n2,n6⟩:=hb g2;have cc:=fun H T=>D6 L (5+(c:Int)) hL hs hn (hi _) H T .none;have vY:=mc L c;have fK:=Bl L c;have Xd:mq L (5+(c:Int))=if fe L (5+(c:Int))=[] then [] else [⟨5+(c:Int),di (fe L (5+(c:Int)))⟩]:=rfl
  have CC:(di (fe L (5+(c:Int)))).length=(fe L (5+(c:Int))).length:=(eZ _).length_eq;have hi5:=hi (5+(c:Int));have w7:-9223372036854775808≤5+(c:Int)+1∧5+(c:Int)+1≤9223372036854775807:=by omega
  refine af fun K2 aW=>?_;rcases lt_or_ge c 3 with h3|h3
  ·have b1:decide (5+(c:Int)≤7)=true:=decide_eq_true (by omega);have n1:5+(c:Int)≤7:=by omega
   refine ae fun K hK=>?_;simp(disch:=omega)[b1,n1];apply hK;clear hK K;apply aF rfl;apply ai;apply aW;clear aW;refine af fun K6 iH=>?_;apply ah;refine ae fun K hK=>?_;simp(disch:=omega) ;refine ak (cc _ _) ?_;simp(disch:=omega) ;apply hK;clear hK K
   by_cases he:fe L (5+(c:Int))=[]
   ·rw[if_pos he] at Xd;rw[Xd,append_nil] at vY;have hz:(di (fe L (5+(c:Int)))).length=0:=by rw[CC,he];rfl
    refine ae fun K hK=>?_;simp(disch:=omega)[hz];apply hK;clear hK K;apply aD rfl;apply ai;apply iH;clear iH;refine au fun K hK=>?_;simp(disch:=omega) ;apply hK;clear hK K;refine⟨(c+1,J1,U1),⟨by show c+1≤3;omega,by simp only;rw[vY];exact g2,g4,g5,g6⟩,by show 3-(c+1)<3-c;omega,?_⟩;refine ag [] [] (by simp) (by simp) (by show nb≤J1.length;omega) (by show tb≤U1.length;omega) g6 ?_;simp[n2,n6];omega
   ·rw[if_neg he] at Xd;have hp0:0<(fe L (5+(c:Int))).length:=by
     rcases eq_zero_or_pos (fe L (5+(c:Int))).length with h|h
     ·exact absurd (List.length_eq_zero_iff.1 h) he
     ·exact h
    generalize di (fe L (5+(c:Int)))=il at *;have b2':decide ((0:Int)<(il.length:Int))=true:=decide_eq_true (by omega);have n2':0<il.length:=by omega
    obtain⟨TB,PC,OF⟩:=g2.hJ;have e6:=aV (OF.get (i:=b6) (b:=.cells [dv,tv,.sl (ff L c).length (cR (ff L c)) (.own tc)]) (by simp));have gU:=g2.hU.get (i:=tc) (b:=((ff L c).length*2,2)) (by simp);have eU:=aV gU;have lU:=(List.getElem?_eq_some_iff.1 gU).1;have pG:=Ii (ff L c) ⟨5+(c:Int),il⟩;rw[Xd] at vY;simp only at pG;rw[←vY] at pG;have tA:(ff L (c+1)).length=(ff L c).length+1:=by rw[vY];simp
    refine ae fun K hK=>?_;simp(disch:=omega)[b2',n2'];apply hK;clear hK K;apply aF rfl;refine au fun K hK=>?_;simp(disch:=omega)[e6,n6,eU,lU,cE];apply hK;clear hK K;have gL:=Has.set (A:=[(b2,B0)]) (B:=TB) (b:=.cells [dv,tv,.sl (ff L c).length (cR (ff L c)) (.own tc)]) OF (.cells [dv,tv,.sl (ff L (c+1)).length (cR (ff L (c+1))) (.own tc)]);have rC:=Has.set (A:=[(td,(L.length,1))]) (B:=gY R) (b:=((ff L c).length*2,2)) (by simpa using g2.hU) ((ff L (c+1)).length*2,2);rw[←pG,tA] at gL;rw[tA] at rC;have Qn:RI H T b2 b6 [(td,(L.length,1)),(tc,((ff L (c+1)).length*2,2))] dv tv (.sl (ff L (c+1)).length (cR (ff L (c+1))) (.own tc)) B0 R (J1.set b6 (.cells [dv,tv,.sl ((ff L c).length+1) (cR (ff L c)++[.int .i64 (5+(c:Int)),.sl il.length (aU il) .none]) (.own tc)])) (U1.set tc (((ff L c).length+1)*2,2)):=⟨⟨TB,PC,by rw[tA,←pG];exact gL⟩,by rw[tA];simpa using rC,g2.hr,g2.pJ.set Cr _,g2.pU.set WY _⟩
    have iD:(J1.set b6 (.cells [dv,tv,.sl ((ff L c).length+1) (cR (ff L c)++[.int .i64 (5+(c:Int)),.sl il.length (aU il) .none]) (.own tc)])).length=J1.length:=by simp
    have Zr:(U1.set tc (((ff L c).length+1)*2,2)).length=U1.length:=by simp
    refine iH _ (cZ fun dy=>?_);simp only at dy;generalize J1.set b6 (.cells [dv,tv,.sl ((ff L c).length+1) (cR (ff L c)++[.int .i64 (5+(c:Int)),.sl il.length (aU il) .none]) (.own tc)])=J2 at *;generalize U1.set tc (((ff L c).length+1)*2,2)=U2 at *;have p2:b2<J2.length:=by omega
    have p6:b6<J2.length:=by omega
    refine au fun K hK=>?_;simp(disch:=omega) ;apply hK;clear hK K;refine⟨(c+1,J2,U2),⟨by show c+1≤3;omega,Qn,by show J2.length=_;omega,by show _≤U2.length;omega,dy⟩,by show 3-(c+1)<3-c;omega,?_⟩;refine ag [] [] (by simp) (by simp) (by show nb≤J2.length;omega) (by show tb≤U2.length;omega) dy ?_;simp[p2,p6];omega
  ·have hc3:c=3:=by omega
   subst hc3;apply ae;intro K h;simp(disch:=omega);apply h;clear h K;apply aD rfl;apply aC;simp(disch:=omega) ;refine go _ J1 U1 g2 g4 g5 ?_;simp[n2,n6]
end Go.Proofs.YtneohapkboaplaaGreat
namespace eJ
open iF Go.Am Go.Proofs.YtneohapkboaplaaGreat
theorem OP {zs:List Zn}(h:∀k,k<zs.length→kO zs k=true):∀j i,i<j→j<zs.length→(zs.getD i z0).f<(zs.getD j z0).f
 |0,i,h1,_=>absurd h1 (not_lt_zero _)
 |j+1,i,h1,h2=>by
  have h3:=(fh (h (j+1) h2)).1;unfold gy at h3;rw[if_neg (by omega),Nat.add_sub_cancel] at h3;rcases lt_or_ge i j with h4|h4
  ·have:=OP h j i h4 (by omega);omega
  ·have:i=j:=by omega
   subst this;exact h3
theorem xl (k:Ky):∀zs:List Zn,(∀z∈zs,z.f≠k.1)→(et zs).filter (fun w=>w.1==k)=[]
 |[],_=>rfl
 |z::r,h=>by
  have e:et (z::r)=nh z.f z.ws++et r:=by simp[et]
  rw[e,filter_append,xl k r fun y hy=>h y (by simp[hy]),append_nil,List.filter_eq_nil_iff];intro w hw;obtain⟨x,_,rfl⟩:=List.mem_map.1 hw;have:=h z (by simp);simp only[beq_iff_eq];intro e;exact this (by rw[←e])
theorem Kj (f:Int)(ws:List Wd)(w:Bs):((nh f ws).filter fun x=>x.1==(f,w)).map (·.2)=j9 ws w:=by
 unfold nh j9;rw[List.filter_map,map_map]
 congr 1
 apply List.filter_congr;intro x _;rw[Bool.eq_iff_iff];simp
theorem AL (k:Ky):∀zs:List Zn,(zs.Pairwise fun x y=>x.f≠y.f)→((et zs).filter fun w=>w.1==k).map (·.2)=j9 (nA zs k.1) k.2
 |[],_=>rfl
 |z::r,h=>by
  have ⟨h1,h2⟩:=List.pairwise_cons.1 h;have e:et (z::r)=nh z.f z.ws++et r:=by simp[et]
  rw[e,filter_append,map_append];unfold nA
  by_cases hz:z.f=k.1
  ·rw[if_pos hz,xl k r fun y hy e=>h1 y hy (by rw[hz,e]),List.map_nil,append_nil];have:=Kj z.f z.ws k.2;rw[hz] at this ⊢;exact this
  ·rw[if_neg hz,←AL k r h2];have:(nh z.f z.ws).filter (fun w=>w.1==k)=[]:=by
    rw[List.filter_eq_nil_iff];intro w hw;obtain⟨x,_,rfl⟩:=List.mem_map.1 hw;simp only[beq_iff_eq];intro e;exact hz (by rw[←e])
   rw[this];rfl
theorem xj {d:Dc}(h:aX d=true)(k:Ky):yo d k=iI d k:=by
 have h1:=(cM h).2.1;refine(AL k d.zs ?_).symm;rw[List.pairwise_iff_getElem];intro i j hi hj jt;have:=OP h1 j i jt hj;rw[getD_eq_getElem?_getD,getD_eq_getElem?_getD,List.getElem?_eq_getElem hi,List.getElem?_eq_getElem hj] at this;simp only[Option.getD_some] at this;omega
theorem KJ {d:Dc}(h:aX d=true)(k:Ky):pM d k=Ek d k:=by unfold pM Ek;rw[xj h]
theorem NC {L:List Dc}(h:∀d∈L,aX d=true)(k:Ky):(L.flatMap fun d=>pM d k)=eY L k:=by
 unfold eY
 induction L with
 |nil=>rfl
 |cons d r ih=>rw[flatMap_cons,flatMap_cons,KJ (h d (by simp)),ih fun x hx=>h x (by simp[hx])]
theorem QV (L:List Dc):ff L 3=dG L:=by
 unfold dG;rw[mc,mc,mc];simp[ff]
theorem xR {d:Dc}(h:aX d=true)(hw:∀z∈d.zs,z.ws.length≤1000):(dF d).length≤4000:=by
 have h4:=qS (cM h).2.1;have:∀zs:List Zn,(∀z∈zs,z.ws.length≤1000)→(zs.flatMap eK).length≤zs.length*1000:=by
  intro zs
  induction zs with
  |nil=>intro _;simp
  |cons z r ih=>
   intro hz;have h1:=ih fun y hy=>hz y (by simp[hy]);have h2:=hz z (by simp);have h3:(eK z).length=z.ws.length:=by simp[eK]
   rw[flatMap_cons,length_append,length_cons];omega
 have:=this d.zs hw;unfold dF;omega
theorem r9 {α β:Type}(f:α→List β){l:List α}{x:α}(h:x∈l):(f x).length≤(l.flatMap f).length:=by
 obtain⟨A,B,rfl⟩:=List.append_of_mem h;rw[flatMap_append,flatMap_cons,length_append,length_append];omega
theorem Fk {α β γ:Type}(f:α→List β)(g:α→List γ)(h:∀x,(f x).length≤(g x).length):∀l:List α,(l.flatMap f).length≤(l.flatMap g).length
 |[]=>by simp
 |x::r=>by
  have h1:=Fk f g h r;have h2:=h x;rw[flatMap_cons,flatMap_cons,length_append,length_append];omega
theorem xJ {α β:Type}(f:α→List β){l m:List α}(h:l.Perm m):(l.flatMap f).length=(m.flatMap f).length:=(h.flatMap_right f).length_eq
theorem fZ {α β:Type}(f:α→List β)(n:Nat):∀l:List α,(∀x∈l,(f x).length≤n)→(l.flatMap f).length≤l.length*n
 |[],_=>by simp
 |x::r,h=>by
  have h1:=fZ f n r fun y hy=>h y (by simp[hy]);have h2:=h x (by simp);rw[flatMap_cons,length_append,length_cons,Nat.add_mul];omega
end eJ
namespace Go.Proofs.YtneohapkboaplaaGreat
open Go Go.Am iF eJ
theorem HU {n0 t0:Nat}{J:List aA}{R:List Rw}{tv:AV}{TB:List (Nat×aA)}(h:Tb n0 R tv TB)(hJ:∀p∈TB,J[p.1]?=some p.2):gk n0 t0 J tv (.sl R.length (bO (R.map fun r=>(⟨r.k.1,r.k.2,r.pl⟩:Tm))) .none):=by
 rcases h with⟨rfl,rfl,_⟩|⟨it,rest,rfl,rfl,wH⟩
 ·exact .keep (.inr rfl) (by simp[qV])
 ·have hH:=hJ _ (List.mem_singleton.2 rfl);have h2:bO (R.map fun r=>(⟨r.k.1,r.k.2,r.pl⟩:Tm))=R.flatMap fun r=>js ⟨r.k.1,r.k.2,r.pl⟩:=by simp[bO,flatMap_map]
  rw[h2];refine .bV wH hH ?_ fun j hj=>?_
  ·rw[length_append,b9 (f:=fun r:Rw=>js ⟨r.k.1,r.k.2,r.pl⟩) (k:=3) (fun _=>rfl),od];omega
  ·rw[zero_add];refine iy (fa:=YW) (fb:=fun r=>js ⟨r.k.1,r.k.2,r.pl⟩) (k:=3) EW (fun _=>rfl) R (fun r _ j hj=>?_) rest j hj
   match j,hj with
   |0,_=>exact .keep (.inl rfl) (.int _ _)
   |1,_=>exact .keep (.inl rfl) (.str _)
   |2,_=>exact .keep (.inr rfl) (by simp)
attribute [-simp] getD_eq_getElem?_getD in
theorem Cj (L:List Dc)(hL:L.length≤2000)(hs:∀d∈L,wa d)(hv:∀d∈L,aX d=true)(L7:(L.flatMap dF).length≤1000000)(Eu:(L.flatMap fun d=>d.ns).length≤1000000)(H:List aA)(T:ar)
  (HO:bC (H++[.cells [.sl 0 [] .full,.sl 0 [] .full,.sl 0 [] .full]]) T) :
  AW ⟨Tryz.prog,135,12,H.length,T.length,[]⟩ (du [1,1,1,1,1] (Tryz.f14.body.getD .skip)) (nN Tryz.prog Tryz.f14.results.toList (BQ H T (.df [ec ⟨L.map (·.id),cQ L,dG L⟩,.int .i64 0])))
   ⟨[(0,.sl L.length (aM L) .none),(2,.ptr H.length 0)],H++[.cells [.sl 0 [] .full,.sl 0 [] .full,.sl 0 [] .full]],T⟩:=by
 conv=>arg 2;whnf
 have hn:∀d∈L,d.ns.length≤1000000:=fun d hd=>le_trans (r9 (fun d:Dc=>d.ns) hd) Eu;have hw:∀d∈L,∀z∈d.zs,z.ws.length≤1000000:=fun d hd z hz=>by
  have h1:=r9 dF hd;have h2:=r9 eK hz;have h3:(eK z).length=z.ws.length:=by simp[eK]
  unfold dF at h1 L7;omega
 have wH:∀f,(fe L f).length≤1000000:=fun f=>le_trans (Fk _ _ (fun d:Dc=>by
  rw[length_map];exact length_filter_le _ _) L) Eu
 have gB:(dE L).length≤1000000:=by
  rw[xy];have:=mF (L.flatMap dF) [];rw[length_nil,zero_add] at this;omega
 have key:∀(G:List aA)(tv:AV),((dE L=[]∧tv=.sl 0 [] .none)∨∃it rest,tv=.bV it 0 (dE L).length∧(H++[aA.cells [.sl 0 [] .full,.sl 0 [] .full,.sl 0 [] .full]]).length≤it∧(H++[aA.cells [.sl 0 [] .full,.sl 0 [] .full,.sl 0 [] .full]]++G)[it]?=some (.cells (fM (dE L)++rest))∧0<(dE L).length)→
   AW ⟨Tryz.prog,135,12,H.length,T.length,[]⟩ (du [1,1,1,1,1,1] (Tryz.f14.body.getD .skip)) (nN Tryz.prog Tryz.f14.results.toList (BQ H T (.df [ec ⟨L.map (·.id),cQ L,dG L⟩,.int .i64 0])))
    ⟨[(0,.sl L.length (aM L) .none),(2,.ptr H.length 0),(6,.ptr (H.length+(G.length+1)) 0)],(H++.cells [.sl 0 [] .full,.sl 0 [] .full,.sl 0 [] .full]::G)++[.cells [.sl 0 [] .full,tv,.sl 0 [] .full]],T⟩:=by
  intro G tv IV
  conv=>arg 2;whnf
  refine iu 1 0 (H++.cells [.sl 0 [] .full,.sl 0 [] .full,.sl 0 [] .full]::G) [.sl 0 [] .full,tv,.sl 0 [] .full] 0 [] (by omega) rfl (by simp) ?_;refine iu 2 2 (H++.cells [.sl 0 [] .full,.sl 0 [] .full,.sl 0 [] .full]::G) [.sl 0 [] (.own T.length),tv,.sl 0 [] .full] 0 [] (by omega) rfl (by simp) ?_;refine cZ fun wL=>?_;simp only[length_append,length_cons,length_nil,List.set_cons_zero,List.set_cons_succ,zero_add] at wL ⊢;have FP:∃R,kp R=(dE L).map (fun k=>(k,[]))∧RI H T H.length (H.length+(G.length+1)) [(T.length,(0,1)),(T.length+1,(0,2))] (.sl 0 [] (.own T.length)) tv (.sl 0 [] (.own (T.length+1))) (.cells [.sl 0 [] .full,.sl 0 [] .full,.sl 0 [] .full]) R
    (H++.cells [.sl 0 [] .full,.sl 0 [] .full,.sl 0 [] .full]::G++[.cells [.sl 0 [] (.own T.length),tv,.sl 0 [] (.own (T.length+1))]]) (T++[(0,1)]++[(0,2)]):=by
   have iE:∀X:List aA,(H++aA.cells [.sl 0 [] .full,.sl 0 [] .full,.sl 0 [] .full]::G++X)[H.length]?=some (.cells [.sl 0 [] .full,.sl 0 [] .full,.sl 0 [] .full]):=fun X=>by simp
   have Cr:(H++aA.cells [.sl 0 [] .full,.sl 0 [] .full,.sl 0 [] .full]::G++[aA.cells [.sl 0 [] (.own T.length),tv,.sl 0 [] (.own (T.length+1))]])[H.length+(G.length+1)]?=some (.cells [.sl 0 [] (.own T.length),tv,.sl 0 [] (.own (T.length+1))]):=by
    rw[List.getElem?_append_right (by simp)];simp
   refine⟨(dE L).map fun k=>⟨k,[],.full⟩,by simp[kp,map_map,Function.comp_def],?_⟩;have rE:gY ((dE L).map fun k=>(⟨k,[],.full⟩:Rw))=[]:=by
    unfold gY;rw[flatMap_map];simp[CK]
   have Sz:kM ((dE L).map fun k=>(⟨k,[],.full⟩:Rw))=fM (dE L):=by unfold kM fM;rw[flatMap_map];rfl
   refine⟨?_,?_,fun x hx=>?_,⟨_,by rw[append_assoc]⟩,⟨_,by rw[append_assoc]⟩⟩
   ·rcases IV with⟨h1,h2⟩|⟨it,rest,h1,h2,h3,h4⟩
    ·refine⟨[],.inl ⟨by rw[h1];rfl,h2,rfl⟩,⟨by simp,fun p hp=>?_⟩⟩;simp at hp;rcases hp with rfl|rfl
     ·exact iE _
     ·exact Cr
    ·have aZ:=(List.getElem?_eq_some_iff.1 h3).1;have Tv:it≠H.length:=fun e=>by
      rw[e] at h3;rw[show (H++[aA.cells [.sl 0 [] .full,.sl 0 [] .full,.sl 0 [] .full]]++G)[H.length]?=some (.cells [.sl 0 [] .full,.sl 0 [] .full,.sl 0 [] .full]) by simp] at h3
      injection h3 with h3
      injection h3 with h3
      have hh:=congrArg (fun l=>l.getD 0 .top) h3;have h5:(fM (dE L)++rest).getD 0 .top=.int .i64 ((dE L).getD 0 k0).1:=by
       have:=uY (dE L) rest 0 h4;rw[Nat.zero_mul,List.drop_zero] at this;have h6:=congrArg (fun l=>l.getD 0 .top) this;simpa[getD_eq_getElem?_getD] using h6
      rw[h5] at hh;simp at hh
     refine⟨[(it,.cells (kM ((dE L).map fun k=>(⟨k,[],.full⟩:Rw))++rest))],.inr ⟨it,rest,by rw[length_map];exact h1,rfl,by simp at h2;omega⟩,⟨?_,fun p hp=>?_⟩⟩
     ·simp at aZ ⊢;omega
     ·simp only[List.mem_cons,List.not_mem_nil,or_false] at hp;rcases hp with rfl|rfl|rfl
      ·exact iE _
      ·exact Cr
      ·rw[Sz];rw[getElem?_append_left (by simp at aZ ⊢;omega)];rw[←h3];congr 1;simp
   ·rw[rE];refine⟨by simp,fun p hp=>?_⟩;simp at hp;rcases hp with rfl|rfl<;>simp
   ·obtain⟨k,_,rfl⟩:=List.mem_map.1 hx;exact⟨.inl ⟨rfl,rfl⟩,fun tk h=>by cases h⟩
  obtain⟨R,Px,FP⟩:=FP;have IC:(H++aA.cells [.sl 0 [] .full,.sl 0 [] .full,.sl 0 [] .full]::G++[aA.cells [.sl 0 [] (.own T.length),tv,.sl 0 [] (.own (T.length+1))]]).length=H.length+(G.length+1)+1:=by simp;omega
  have hu0:(T++[((0:Nat),(1:Nat))]++[(0,2)]).length=T.length+2:=by simp
  generalize hJ0:H++aA.cells [.sl 0 [] .full,.sl 0 [] .full,.sl 0 [] .full]::G++[aA.cells [.sl 0 [] (.own T.length),tv,.sl 0 [] (.own (T.length+1))]]=J0 at *;generalize ZF:T++[((0:Nat),(1:Nat))]++[(0,2)]=U0 at *;obtain⟨b6,Cr⟩:∃b,b=H.length+(G.length+1):=⟨_,rfl⟩
  rw[←Cr] at FP IC;simp only[←Cr];clear hJ0 ZF;refine af fun K2 aW=>?_;refine D3 L (by omega) hs hw H T H.length T.length H.length b6 T.length (T.length+1) tv _ _ (dE L) R J0 U0 (by omega) (by omega) FP Px gB (by omega) (le_refl _) wL _ fun e J1 U1 R1 q1 q2 q3 q4 he=>?_;refine aW _ (cZ fun Z2=>?_);simp only at Z2;refine aH ⟨[(0,.sl L.length (aM L) .none),(2,.ptr H.length 0),(6,.ptr b6 0)],J1,U1⟩ (ag [] [] (by simp) (by simp) (by show H.length≤J1.length;omega) (by show T.length≤U1.length;omega) Z2 he) ?_;clear aW he;refine af fun K3 bz=>?_;refine D7 L (by omega) hs hn wH H T H.length T.length H.length b6 T.length (T.length+1) _ tv _ R1 J1 U1 (by omega) (by omega) q1 (by omega) (by omega) Z2 _ fun e J2 U2 p1 p2 p3 he=>?_;refine bz _ (cZ fun HO6=>?_);simp only at HO6;refine aH ⟨[(2,.ptr H.length 0),(6,.ptr b6 0)],J2,U2⟩ (ag [] [] (by simp) (by simp) (by show H.length≤J2.length;omega) (by show T.length≤U2.length;omega) HO6 he) ?_;clear bz he;rw[←QV];have Pq:cQ L=R1.map fun r=>(⟨r.k.1,r.k.2,r.pl⟩:Tm):=by
   have h1:(R1.map fun r=>(⟨r.k.1,r.k.2,r.pl⟩:Tm))=(kp R1).map fun x=>⟨x.1.1,x.1.2,x.2⟩:=by simp[kp,map_map,Function.comp_def]
   rw[h1,q2,map_map];exact List.map_congr_left fun k _=>by simp only[Function.comp];rw[NC hv]
  obtain⟨TB,PC,gL⟩:=p1.hJ;generalize ff L 3=cs at *;have Qg:(L.map (·.id)).length=L.length:=by simp
  have g2:=gL.get (i:=H.length) (b:=.cells [.sl 0 [] .full,.sl 0 [] .full,.sl 0 [] .full]) (by simp);have g6:=gL.get (i:=b6) (b:=.cells [.sl L.length (ints (L.map (·.id))) (.own T.length),tv,.sl cs.length (cR cs) (.own (T.length+1))]) (by simp);have e6:=aV g6;have l6:=(List.getElem?_eq_some_iff.1 g6).1;have l2:=(List.getElem?_eq_some_iff.1 g2).1;have e2:=aV g2;have zt:=Has.set (A:=[]) (B:=(b6,.cells [.sl L.length (ints (L.map (·.id))) (.own T.length),tv,.sl cs.length (cR cs) (.own (T.length+1))])::TB) (b:=.cells [.sl 0 [] .full,.sl 0 [] .full,.sl 0 [] .full]) (by simpa using gL) (.cells [.sl L.length (ints (L.map (·.id))) (.own T.length),tv,.sl cs.length (cR cs) (.own (T.length+1))]);have oJ:=p1.pJ.set (le_refl _) (.cells [.sl L.length (ints (L.map (·.id))) (.own T.length),tv,.sl cs.length (cR cs) (.own (T.length+1))]);generalize jM:L.map (·.id)=ids at *;refine ae fun K hK=>?_;simp(disch:=omega)[e6,l6,e2,l2];apply hK;clear hK K;apply az;simp(disch:=omega) ;refine⟨oJ,p1.pU,?_⟩;have hsg:ec ⟨ids,cQ L,cs⟩=.agg [.sl L.length (ints ids) .none,.sl R1.length (bO (R1.map fun r=>(⟨r.k.1,r.k.2,r.pl⟩:Tm))) .none,.sl cs.length (cR cs) .none]:=by
   rw[Pq];show AV.agg [.sl ids.length (ints ids) .none,.sl (R1.map fun r=>(⟨r.k.1,r.k.2,r.pl⟩:Tm)).length _ .none,_]=_;rw[Qg,length_map]
  rw[hsg];have Zh:=HU (t0:=T.length) PC fun p hp=>zt.2 p (by simp[hp]);refine gk.pair (.agg rfl fun j hj=>?_) (.keep (.inl rfl) (.int _ _))
  match j,hj with
  |0,_=>exact .keep (.inr rfl) (by simp)
  |1,_=>exact Zh
  |2,_=>exact .keep (.inr rfl) (by simp)
 refine ae fun K hK=>?_;simp(disch:=omega) ;refine⟨_,Dm L (by omega) L7 (fun d hd=>by have:=qS (cM (hv d hd)).2.1;omega) _ _ .none,?_⟩;rintro r H' T' ⟨⟨G,rfl⟩,ZH,MA⟩;subst T';rcases MA with⟨h1,rfl⟩|⟨it,rest,rfl,h2,h3,h4⟩
 ·simp(disch:=omega) ;apply hK;clear hK K;refine cZ fun wL=>?_;refine aH ⟨[(0,.sl L.length (aM L) .none),(2,.ptr H.length 0),(6,.ptr (H.length+(G.length+1)) 0)],(H++aA.cells [.sl 0 [] .full,.sl 0 [] .full,.sl 0 [] .full]::G)++[aA.cells [.sl 0 [] .full,.sl 0 [] .none,.sl 0 [] .full]],T⟩ (ag [] [] (by simp) (by simp) (by simp) (le_refl _) (by simpa using wL) (by simp)) ?_;exact key G _ (.inl ⟨h1,rfl⟩)
 ·simp(disch:=omega) ;apply hK;clear hK K;refine cZ fun wL=>?_;refine aH ⟨[(0,.sl L.length (aM L) .none),(2,.ptr H.length 0),(6,.ptr (H.length+(G.length+1)) 0)],(H++aA.cells [.sl 0 [] .full,.sl 0 [] .full,.sl 0 [] .full]::G)++[aA.cells [.sl 0 [] .full,.bV it 0 (dE L).length,.sl 0 [] .full]],T⟩ (ag [] [] (by simp) (by simp) (by simp) (le_refl _) (by simpa using wL) (by simp)) ?_;exact key G _ (.inr ⟨it,rest,rfl,h2,h3,h4⟩)
attribute [-simp] getD_eq_getElem?_getD in
theorem x3 (l:List Dc)(hl:l.length≤1000000)(hs:∀d∈l,wa d)(L7:(∀d∈l,aX d=true)→(l.flatMap dF).length≤1000000)(Eu:(l.flatMap fun d=>d.ns).length≤1000000)(H:List aA)(T:ar)(tg:Tag) :
  aq Tryz.prog 14 [.sl l.length (aM l) tg] H T (Is (.df [ec (bY l).1,.int .i64 (bY l).2]) H T):=by
 refine aq.cD ?_;refine aq.nF ?_;show aq Tryz.prog _ _ H T (BQ H T _);have mO:l.length≤9223372036854775807:=by omega
 refine aj 12 [] Tryz.ntmps14 Tryz.func14 rfl (fun _ _=>Tryz.call14 _ _) (by simp) (fun HO=>?_);have eX:bC (H++[.cells [.sl 0 [] .full,.sl 0 [] .full,.sl 0 [] .full]]) T:=HO.snoc (by simp);apply ae;intro K h;simp(disch:=omega);apply h;clear h K;refine af fun K1 aQ=>?_
 by_cases FM:2000<l.length
 ·have b0:decide ((2000:Int)<l.length)=true:=decide_eq_true (by omega);refine ae fun K hK=>?_;simp(disch:=omega)[b0,FM];apply hK;clear hK K;apply aF rfl;apply ae;intro K h;simp(disch:=omega);apply h;clear h K;apply az;simp(disch:=omega) ;have hF:bY l=(fl,3):=by unfold bY;rw[if_pos FM]
  rw[hF];exact⟨⟨_,rfl⟩,⟨[],by simp⟩,fY 3⟩
 have b0:decide ((2000:Int)<l.length)=false:=decide_eq_false (by omega);have n0:¬(2000:Int)<l.length:=by omega
 refine ae fun K hK=>?_;simp(disch:=omega)[b0,n0];apply hK;clear hK K;apply aD rfl;apply ai;apply aQ;clear aQ;refine af fun K1 aQ=>?_;apply ae;intro K h;simp(disch:=omega);apply h;clear h K;apply ah;refine aG (X:=Nat) (fun i=>⟨[(0,.sl l.length (aM l) .none),(2,.ptr H.length 0),(4,.int .i64 (i:Nat))],H++[.cells [.sl 0 [] .full,.sl 0 [] .full,.sl 0 [] .full]],T⟩)
  (fun i=>i≤l.length∧∀j,j<i→aX (l.getD j d0)=true) (fun i=>l.length-i) 0 ?_ ?_ ?_
 ·exact⟨zero_le _,fun j hj=>absurd hj (not_lt_zero _)⟩
 ·refine ag [] [] (by simp) (by simp) (by simp) (by simp) eX ?_;simp
 ·rintro i ⟨g1,g2⟩;refine af fun K2 aW=>?_;apply ae;intro K h;simp(disch:=omega);apply h;clear h K;refine aN rfl (fun hk=>?_) (fun hk=>?_)
  ·simp  at hk;have bA:=iz l i hk;have c:=fun H=>BK (l.getD i d0) (hs _ (aR l i d0 hk)) H T;have iR:=aR l i d0 hk;have iK:aX (l.getD i d0)=true→∀j,j<i+1→aX (l.getD j d0)=true:=fun h j hj=>by
    rcases lt_or_ge j i with h1|h1
    ·exact g2 j h1
    ·have:j=i:=by omega
     subst this;exact h
   have aaK:aX (l.getD i d0)=false→bY l=(fl,1):=fun h=>by
    unfold bY;rw[if_neg FM,if_pos];rw[List.any_eq_true];exact⟨_,iR,by rw[h];rfl⟩
   generalize l.getD i d0=d at *;apply ai;apply aW;clear aW;refine af fun K3 bz=>?_;apply ah
   cases hv:aX d with
   |false=>
    rw[hv] at c;refine ae fun K hK=>?_;simp(disch:=omega)[bA,bD,hk];refine ak (c _) ?_;simp(disch:=omega) ;apply hK;clear hK K;apply aF rfl;apply ae;intro K h;simp(disch:=omega);apply h;clear h K;apply az;simp(disch:=omega) ;rw[aaK hv];exact⟨⟨_,rfl⟩,⟨[],by simp⟩,fY 1⟩
   |true=>
    rw[hv] at c;refine ae fun K hK=>?_;simp(disch:=omega)[bA,bD,hk];refine ak (c _) ?_;simp(disch:=omega) ;apply hK;clear hK K;apply aD rfl;apply ai;apply bz;clear bz;refine au fun K hK=>?_;simp(disch:=omega) ;apply hK;clear hK K;refine⟨i+1,⟨by show i+1≤_;omega,iK hv⟩,by show l.length-(i+1)<l.length-i;omega,?_⟩;refine ag [] [] (by simp) (by simp) (by simp) (by simp) eX ?_;simp
  ·simp  at hk;have jh:∀d∈l,aX d=true:=fun d hd=>by
    obtain⟨j,hj,e⟩:=bS d0 hd;rw[←e];exact g2 j (by omega)
   have ye:l.any (fun d=>!aX d)=false:=by
    rw[List.any_eq_false];intro d hd;rw[jh d hd];simp
   apply aC;simp(disch:=omega) ;apply aQ;clear aQ;have cs:=fun H=>BM l (by omega) H T .none;have nU:=(gj l).perm;have wg:=(gj l).ord;have hLl:(dU l).length=l.length:=lR l;have Ss:∀d∈dU l,d∈l:=fun d hd=>nU.mem_iff.1 hd;have hFl:(((dU l).map (·.id)).Nodup→bY l=(⟨(dU l).map (·.id),cQ (dU l),dG (dU l)⟩,0))∧(¬((dU l).map (·.id)).Nodup→bY l=(fl,10)):=by
    refine⟨fun h=>?_,fun h=>?_⟩
    ·unfold bY;rw[if_neg FM,if_neg (by rw[ye];simp),if_neg (fun hh=>hh ((nU.map _).nodup_iff.1 h))]
    ·unfold bY;rw[if_neg FM,if_neg (by rw[ye];simp),if_pos (fun hh=>h ((nU.map _).nodup_iff.2 hh))]
   refine ae fun K hK=>?_;simp(disch:=omega) ;refine ak (cs _) ?_;simp(disch:=omega) ;apply hK;clear hK K;generalize dU l=L at *;refine af fun K1 aQ=>?_;apply ae;intro K h;simp(disch:=omega);apply h;clear h K;apply ah;refine aG (X:=Nat) (fun i=>⟨[(0,.sl L.length (aM L) .none),(2,.ptr H.length 0),(5,.int .i64 (i:Nat))],H++[.cells [.sl 0 [] .full,.sl 0 [] .full,.sl 0 [] .full]],T⟩)
    (fun i=>1≤i∧i≤L.length+1∧∀j,0<j→j<i→j<L.length→(L.getD (j-1) d0).id≠(L.getD j d0).id) (fun i=>L.length+1-i) 1 ?_ ?_ ?_
   ·exact⟨le_refl _,by omega,fun j h1 h2=>by omega⟩
   ·refine ag [] [] (by simp) (by simp) (by simp) (by simp) eX ?_;simp
   ·rintro m ⟨m1,m2,m3⟩;refine af fun K2 aW=>?_;apply ae;intro K h;simp(disch:=omega);apply h;clear h K;refine aN rfl (fun hm=>?_) (fun hm=>?_)
    ·simp  at hm;have fP:=(jc L m hm).1;have Jl:=(jc L (m-1) (by omega)).1;have e6:((m:Int)-1)=((m-1:Nat):Int):=by omega
     have FI:m-1<L.length:=by omega
     have aaC:=fun h=>Fw (L:=L) (i:=m) (by omega) hm h;have iK:(L.getD (m-1) d0).id≠(L.getD m d0).id→∀j,0<j→j<m+1→j<L.length→(L.getD (j-1) d0).id≠(L.getD j d0).id:=fun h j h0 hj ph=>by
      rcases lt_or_ge j m with h1|h1
      ·exact m3 j h0 h1 ph
      ·have:j=m:=by omega
       subst this;exact h
     generalize (L.getD m d0).id=x at *;generalize (L.getD (m-1) d0).id=y at *;apply ai;apply aW;clear aW;refine af fun K3 bz=>?_;apply ah
     by_cases Cy:y=x
     ·have b1:(y==x)=true:=by simpa using Cy
      refine aI [] [] [] al (by kernel_rfl) (by kernel_rfl) fun K hK=>?_;simp(disch:=omega)[e6,fP,Jl,bD,hm,FI,b1,Cy];apply hK;clear hK K;apply aF rfl;apply ae;intro K h;simp(disch:=omega);apply h;clear h K;apply az;simp(disch:=omega) ;rw[hFl.2 (aaC Cy)];exact⟨⟨_,rfl⟩,⟨[],by simp⟩,fY 10⟩
     ·have b1:(y==x)=false:=by simpa using Cy
      refine aI [] [] [] al (by kernel_rfl) (by kernel_rfl) fun K hK=>?_;simp(disch:=omega)[e6,fP,Jl,bD,hm,FI,b1,Cy];apply hK;clear hK K;apply aD rfl;apply ai;apply bz;clear bz;refine au fun K hK=>?_;simp(disch:=omega) ;apply hK;clear hK K;refine⟨m+1,⟨by show 1≤m+1;omega,by show m+1≤_;omega,iK Cy⟩,by show L.length+1-(m+1)<L.length+1-m;omega,?_⟩;refine ag [] [] (by simp) (by simp) (by simp) (by simp) eX ?_;simp
    ·simp  at hm;have aZ:=x8 wg fun j h0 hj=>m3 j h0 (by omega) hj;have lr:=ra aZ;apply aC;simp(disch:=omega) ;apply aQ;clear aQ;refine aH ⟨[(0,.sl L.length (aM L) .none),(2,.ptr H.length 0)],H++[.cells [.sl 0 [] .full,.sl 0 [] .full,.sl 0 [] .full]],T⟩ (ag [] [] (by simp) (by simp) (by simp) (by simp) eX (by simp)) ?_;rw[hFl.1 lr];exact Cj L (by omega) (fun d hd=>hs d (Ss d hd)) (fun d hd=>jh d (Ss d hd)) (by rw[xJ dF nU];exact L7 jh) (by rw[xJ (fun d:Dc=>d.ns) nU];exact Eu) H T eX
end Go.Proofs.YtneohapkboaplaaGreat
