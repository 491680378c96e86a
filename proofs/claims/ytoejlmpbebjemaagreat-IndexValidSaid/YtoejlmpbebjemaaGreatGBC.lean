/- segment.Build (layer 39): what comes out of the maps, as a plain function of the documents. segment.Build (layer 39): the whole. segment.Build (layer 39): the contract.
  Conditions: lengths below 400 or 1000, as each theorem says. -/
import Derived.Test.YtoejlmpbebjemaaGreatGBB
set_option linter.all false
set_option maxRecDepth 100000
set_option maxHeartbeats 16000000
namespace Seg
open Sug
def insK (k:Ky):List Ky→List Ky
 |[]=>[k]
 |x::r=>if kylt x k=true then x::insK k r else if kylt k x=true then k::x::r else x::r
def insN (k:Nm):List Nm→List Nm
 |[]=>[k]
 |x::r=>if nmlt x k=true then x::insN k r else k::x::r
def insD (d:Dc):List Dc→List Dc
 |[]=>[d]
 |x::r=>if x.id≤d.id then x::insD d r else d::x::r
def sortD (l:List Dc):List Dc:=l.foldl (fun a d=>insD d a) []
def isortN (l:List Nm):List Nm:=l.foldl (fun a d=>insN d a) []
def keysF (L:List Dc):List Ky:=(L.flatMap fun d=>(dwds d.zs).map (·.1)).foldl (fun a k=>insK k a) []
def posD (d:Dc)(k:Ky):List Int:=((dwds d.zs).filter fun w=>w.1==k).map (·.2)
def pst (d:Dc)(k:Ky):List Ps:=if posD d k=[] then [] else [(d.id,posD d k)]
def postF (L:List Dc)(k:Ky):List Ps:=L.flatMap fun d=>pst d k
def termsF (L:List Dc):List Tm:=(keysF L).map fun k=>⟨k.1,k.2,postF L k⟩
def itsF (L:List Dc)(f:Int):List Nm:=L.flatMap fun d=>(d.ns.filter fun x=>x.1==f).map fun x=>(x.2,d.id)
def colF (L:List Dc)(f:Int):List Cl:=if itsF L f=[] then [] else [⟨f,isortN (itsF L f)⟩]
def colsF (L:List Dc):List Cl:=colF L 5++colF L 6++colF L 7
def buildF (l:List Dc):Sg×Int:=
 if 2000<l.length then (noSeg,3) else if l.any (fun d=>!validD d)=true then (noSeg,1)
 else if ¬(l.map (·.id)).Nodup then (noSeg,10) else (⟨(sortD l).map (·.id),termsF (sortD l),colsF (sortD l)⟩,0)
theorem insD_perm (d:Dc)(l:List Dc):(insD d l).Perm (d::l):=by
 induction l with
 |nil=>exact .refl _
 |cons x r ih=>
  unfold insD
  split
  ·exact(ih.cons x).trans (.swap _ _ _)
  ·exact .refl _
theorem insD_ord (d:Dc){l:List Dc}(h:l.Pairwise fun x y=>x.id≤y.id):(insD d l).Pairwise fun x y=>x.id≤y.id:=by
 induction l with
 |nil=>simp[insD]
 |cons x r ih=>
  have ⟨h1,h2⟩:=List.pairwise_cons.1 h;unfold insD
  split
  ·rename_i hx;refine List.pairwise_cons.2 ⟨fun y hy=>?_,ih h2⟩;rcases List.mem_cons.1 ((insD_perm d r).mem_iff.1 hy) with rfl|hy
   ·exact hx
   ·exact h1 y hy
  ·rename_i hx;refine List.pairwise_cons.2 ⟨fun y hy=>?_,h⟩;rcases List.mem_cons.1 hy with rfl|hy
   ·omega
   ·have:=h1 y hy;omega
theorem sortD_inOrd (l:List Dc):InOrd l (sortD l):=by
 have key:∀(l a:List Dc),(a.Pairwise fun x y=>x.id≤y.id)→(l.foldl (fun a d=>insD d a) a).Perm (l++a)∧(l.foldl (fun a d=>insD d a) a).Pairwise fun x y=>x.id≤y.id:=by
  intro l
  induction l with
  |nil=>intro a h;exact⟨.refl _,h⟩
  |cons d r ih=>
   intro a h;obtain⟨h1,h2⟩:=ih (insD d a) (insD_ord d h);refine⟨h1.trans ?_,h2⟩;exact((insD_perm d a).append_left r).trans List.perm_middle
 obtain⟨h1,h2⟩:=key l [] .nil;rw[List.append_nil] at h1;exact⟨h1,h2⟩
theorem inOrd_unique {l a b:List Dc}(ha:InOrd l a)(hb:InOrd l b)(hn:(l.map (·.id)).Nodup):a=b:=by
 refine List.Perm.eq_of_pairwise (le:=fun x y=>x.id≤y.id) ?_ ha.ord hb.ord (ha.perm.trans hb.perm.symm);intro x y hx hy h1 h2;have hx':=ha.perm.mem_iff.1 hx;have hy':=hb.perm.mem_iff.1 hy;have e:x.id=y.id:=by omega
 obtain⟨i,hi,e1⟩:=List.mem_iff_getElem.1 hx';obtain⟨j,hj,e2⟩:=List.mem_iff_getElem.1 hy';have hij:i=j:=(List.getElem_inj (xs:=l.map (·.id)) (h₀:=by simpa using hi) (h₁:=by simpa using hj) hn).1 (by simp[e1,e2,e]);subst hij;rw[←e1,←e2]
theorem adj_nodup {L:List Dc}(h:L.Pairwise fun x y=>x.id≤y.id)(ha:∀i,0<i→i<L.length→(L.getD (i-1) d0).id≠(L.getD i d0).id):L.Pairwise fun x y=>x.id<y.id:=by
 rw[List.pairwise_iff_getElem] at h ⊢;intro i j hi hj hij;have h1:=ha (i+1) (by omega) (by omega);rw[show i+1-1=i by omega,List.getD_eq_getElem?_getD,List.getD_eq_getElem?_getD,List.getElem?_eq_getElem hi,List.getElem?_eq_getElem (by omega:i+1<L.length)] at h1;simp only[Option.getD_some] at h1;have h2:=h i (i+1) hi (by omega) (by omega);rcases Nat.eq_or_lt_of_le (Nat.succ_le_of_lt hij) with e|e
 ·have e':j=i+1:=by omega
  subst e';omega
 ·have:=h (i+1) j (by omega) hj e;omega
theorem lt_nodup {L:List Dc}(h:L.Pairwise fun x y=>x.id<y.id):(L.map (·.id)).Nodup:=by
 rw[List.Nodup,List.pairwise_map];exact h.imp fun hab=>by omega
theorem adj_dup {L:List Dc}{i:Nat}(h0:0<i)(hi:i<L.length)(h:(L.getD (i-1) d0).id=(L.getD i d0).id):¬(L.map (·.id)).Nodup:=by
 intro hn;have h1:i-1<L.length:=by omega
 rw[List.getD_eq_getElem?_getD,List.getD_eq_getElem?_getD,List.getElem?_eq_getElem hi,List.getElem?_eq_getElem h1] at h;have:=(List.getElem_inj (xs:=L.map (·.id)) (h₀:=by simpa using h1) (h₁:=by simpa using hi) hn).1 (by simpa using h);omega
theorem insK_mem (k:Ky)(l:List Ky)(x:Ky):x∈insK k l↔x=k∨x∈l:=by
 induction l with
 |nil=>simp[insK]
 |cons y r ih=>
  unfold insK
  split
  ·rw[List.mem_cons,ih,List.mem_cons]
   constructor
   ·rintro (h|h|h)<;>simp[h]
   ·rintro (h|h|h)<;>simp[h]
  ·rename_i h1
   split
   ·simp
   ·rename_i h2;have:y=k:=kylt_total (by simpa using h1) (by simpa using h2);subst this;simp
theorem insK_ord (k:Ky){l:List Ky}(h:l.Pairwise fun x y=>kylt x y=true):(insK k l).Pairwise fun x y=>kylt x y=true:=by
 induction l with
 |nil=>simp[insK]
 |cons y r ih=>
  have ⟨h1,h2⟩:=List.pairwise_cons.1 h;unfold insK
  split
  ·rename_i hy;refine List.pairwise_cons.2 ⟨fun z hz=>?_,ih h2⟩;rcases (insK_mem k r z).1 hz with rfl|hz
   ·exact hy
   ·exact h1 z hz
  ·split
   ·rename_i hy;refine List.pairwise_cons.2 ⟨fun z hz=>?_,h⟩;rcases List.mem_cons.1 hz with rfl|hz
    ·exact hy
    ·exact kylt_trans hy (h1 z hz)
   ·exact h
theorem foldK {l:List Ky}:∀{a:List Ky},(a.Pairwise fun x y=>kylt x y=true)→((l.foldl (fun a k=>insK k a) a).Pairwise fun x y=>kylt x y=true)∧∀x,x∈l.foldl (fun a k=>insK k a) a↔x∈l∨x∈a:=by
 induction l with
 |nil=>intro a h;exact⟨h,by simp⟩
 |cons k r ih=>
  intro a h;obtain⟨h1,h2⟩:=ih (insK_ord k h);refine⟨h1,fun x=>?_⟩;rw[List.foldl_cons,h2,insK_mem,List.mem_cons]
  constructor
  ·rintro (h|h|h)<;>simp[h]
  ·rintro ((h|h)|h)<;>simp[h]
theorem keysF_ord (L:List Dc):(keysF L).Pairwise fun x y=>kylt x y=true:=(foldK .nil).1
theorem keysF_mem (L:List Dc)(k:Ky):k∈keysF L↔∃d∈L,∃p,(k,p)∈dwds d.zs:=by
 unfold keysF;rw[(foldK .nil).2];simp
theorem kys_unique {a b:List Ky}(ha:a.Pairwise fun x y=>kylt x y=true)(hb:b.Pairwise fun x y=>kylt x y=true)(h:∀x,x∈a↔x∈b):a=b:=by
 have nd:∀{l:List Ky},(l.Pairwise fun x y=>kylt x y=true)→l.Nodup:=fun h=>h.imp fun {x y} hxy=>by
  rintro rfl;rw[kylt_irrefl] at hxy;cases hxy
 refine List.Perm.eq_of_pairwise (le:=fun x y=>kylt x y=true) ?_ ha hb ((List.perm_ext_iff_of_nodup (nd ha) (nd hb)).2 h);intro x y _ _ h1 h2;have:=kylt_trans h1 h2;rw[kylt_irrefl] at this;cases this
theorem insN_perm (k:Nm)(l:List Nm):(insN k l).Perm (k::l):=by
 induction l with
 |nil=>exact .refl _
 |cons x r ih=>
  unfold insN
  split
  ·exact(ih.cons x).trans (.swap _ _ _)
  ·exact .refl _
theorem nmlt_asymm {a b:Nm}(h:nmlt a b=true):nmlt b a=false:=by
 cases h2:nmlt b a with
 |false=>rfl
 |true=>have:=nmlt_trans h h2;rw[nmlt_irrefl] at this;cases this
theorem insN_ord (k:Nm){l:List Nm}(h:l.Pairwise fun x y=>nmlt y x=false):(insN k l).Pairwise fun x y=>nmlt y x=false:=by
 induction l with
 |nil=>simp[insN]
 |cons x r ih=>
  have ⟨h1,h2⟩:=List.pairwise_cons.1 h;unfold insN
  split
  ·rename_i hx;refine List.pairwise_cons.2 ⟨fun y hy=>?_,ih h2⟩;rcases List.mem_cons.1 ((insN_perm k r).mem_iff.1 hy) with rfl|hy
   ·exact nmlt_asymm hx
   ·exact h1 y hy
  ·rename_i hx;refine List.pairwise_cons.2 ⟨fun y hy=>?_,h⟩;rcases List.mem_cons.1 hy with rfl|hy
   ·simpa using hx
   ·exact nmlt_ntrans (h1 y hy) (by simpa using hx)
theorem isortN_eq (l:List Nm):isortN l=sortN l:=by
 have key:∀(l a:List Nm),(a.Pairwise fun x y=>nmlt y x=false)→(l.foldl (fun a d=>insN d a) a).Perm (l++a)∧(l.foldl (fun a d=>insN d a) a).Pairwise fun x y=>nmlt y x=false:=by
  intro l
  induction l with
  |nil=>intro a h;exact⟨.refl _,h⟩
  |cons d r ih=>
   intro a h;obtain⟨h1,h2⟩:=ih (insN d a) (insN_ord d h);exact⟨h1.trans (((insN_perm d a).append_left r).trans List.perm_middle),h2⟩
 obtain⟨h1,h2⟩:=key l [] .nil;have h3:(sortN l).Pairwise fun x y=>nmlt y x=false:=by
  have:=List.pairwise_mergeSort (le:=fun x y=>!(nmlt y x)) (fun a b c h1 h2=>by
   rw[Bool.not_eq_true'] at h1 h2 ⊢;exact nmlt_ntrans h2 h1) (fun a b=>by
   cases h:nmlt b a with
   |false=>rfl
   |true=>rw[nmlt_asymm h];rfl) l
  exact this.imp fun h=>by simpa using h
 refine List.Perm.eq_of_pairwise (le:=fun x y=>nmlt y x=false) (fun x y _ _ h1 h2=>nmlt_total h2 h1) h2 h3 ?_;have:(l.foldl (fun a d=>insN d a) []).Perm l:=by simpa using h1
 exact this.trans (List.mergeSort_perm _ _).symm
end Seg
namespace Go.Proofs.YtoejlmpbebjemaaGreat
open Go Go.Am Sug Seg
theorem runE_lk {id:Int}{E E':List En}{l:List (Ky×Int)}(h:RunE id E l E')(k:Ky):lkE E' k=l.foldl (fun a w=>if w.1=k then addP a id w.2 else a) (lkE E k):=by
 induction h with
 |nil=>rfl
 |@snoc E1 E2 l k' p h h2 ih=>
  rw[List.foldl_append,←ih,h2.lk k];simp only[List.foldl_cons,List.foldl_nil]
  by_cases hk:k=k'
  ·subst hk;simp
  ·rw[if_neg hk,if_neg (Ne.symm hk)]
theorem runE_ks {id:Int}{E E':List En}{l:List (Ky×Int)}(h:RunE id E l E')(k:Ky):k∈E'.map (·.k)↔k∈E.map (·.k)∨∃p,(k,p)∈l:=by
 induction h with
 |nil=>simp
 |@snoc E1 E2 l k' p h h2 ih=>
  rw[h2.ks,ih]
  constructor
  ·rintro (rfl|h|⟨q,h⟩)
   ·exact .inr ⟨p,by simp⟩
   ·exact .inl h
   ·exact .inr ⟨q,by simp[h]⟩
  ·rintro (h|⟨q,h⟩)
   ·exact .inr (.inl h)
   ·rcases List.mem_append.1 h with h|h
    ·exact .inr (.inr ⟨q,h⟩)
    ·simp at h;exact .inl h.1
theorem runF_lk {F F':List Ef}{l:List (Int×Nm)}(h:RunF F l F')(f:Int):lkF F' f=lkF F f++(l.filter fun x=>x.1==f).map (·.2):=by
 induction h with
 |nil=>simp
 |@snoc E1 E2 l k' p h h2 ih=>
  rw[h2.lk f,List.filter_append,List.map_append,←List.append_assoc,←ih]
  by_cases hk:f=k'
  ·subst hk;simp
  ·rw[if_neg hk,List.filter_cons_of_neg (by simpa using Ne.symm hk)];simp
theorem fold_doc (id:Int)(k:Ky):∀(l:List (Ky×Int)) (a:List Ps),(∀q∈a,q.1≠id)→l.foldl (fun a w=>if w.1=k then addP a id w.2 else a) a=a++(if (l.filter fun w=>w.1==k)=[] then [] else [(id,(l.filter fun w=>w.1==k).map (·.2))]):=by
 have two:∀(l:List (Ky×Int)) (a:List Ps) (at_:List Int),l.foldl (fun a w=>if w.1=k then addP a id w.2 else a) (a++[(id,at_)])=a++[(id,at_++(l.filter fun w=>w.1==k).map (·.2))]:=by
  intro l
  induction l with
  |nil=>intro a at_;simp
  |cons w r ih=>
   intro a at_;rw[List.foldl_cons]
   by_cases hw:w.1=k
   ·rw[if_pos hw,addP_snoc,if_pos rfl,ih,List.filter_cons_of_pos (by simpa using hw)];simp
   ·rw[if_neg hw,ih,List.filter_cons_of_neg (by simpa using hw)]
 intro l
 induction l with
 |nil=>intro a _;simp
 |cons w r ih=>
  intro a ha;rw[List.foldl_cons]
  by_cases hw:w.1=k
  ·have h1:addP a id w.2=a++[(id,[w.2])]:=by
    rcases List.eq_nil_or_concat a with rfl|⟨b,q,rfl⟩
    ·rfl
    ·obtain⟨q1,q2⟩:=q;rw[List.concat_eq_append,addP_snoc,if_neg (ha (q1,q2) (by simp))]
   rw[if_pos hw,h1,two,List.filter_cons_of_pos (by simpa using hw)];simp
  ·rw[if_neg hw,ih a ha,List.filter_cons_of_neg (by simpa using hw)]
theorem runL_lk {L:List Dc}{E:List En}{F:List Ef}(h:RunL L E F)(hs:L.Pairwise fun x y=>x.id<y.id)(k:Ky):lkE E k=postF L k:=by
 induction h with
 |nil=>rfl
 |@snoc l d E E' F F' h h1 h2 ih=>
  rw[List.pairwise_append] at hs;have hi:=ih hs.1;rw[runE_lk h1 k,hi,fold_doc d.id k _ _ (fun q hq=>?_)]
  ·have hiff:posD d k=[]↔((dwds d.zs).filter fun w=>w.1==k)=[]:=by simp only[posD,List.map_eq_nil_iff]
   have hp:postF (l++[d]) k=postF l k++pst d k:=by simp[postF]
   rw[hp,pst]
   by_cases hh:((dwds d.zs).filter fun w=>w.1==k)=[]
   ·rw[if_pos hh,if_pos (hiff.2 hh)]
   ·rw[if_neg hh,if_neg (fun x=>hh (hiff.1 x))];rfl
  ·obtain⟨x,hx,hq⟩:=List.mem_flatMap.1 hq;have:=hs.2.2 x hx d (by simp);unfold pst at hq
   split at hq
   ·simp at hq
   ·simp at hq;rw[hq];simp only;omega
theorem runL_ks {L:List Dc}{E:List En}{F:List Ef}(h:RunL L E F)(k:Ky):k∈E.map (·.k)↔∃d∈L,∃p,(k,p)∈dwds d.zs:=by
 induction h with
 |nil=>simp
 |@snoc l d E E' F F' h h1 h2 ih=>
  rw[runE_ks h1,ih];simp only[List.mem_append,List.mem_singleton]
  constructor
  ·rintro (⟨x,hx,hp⟩|hp)
   ·exact⟨x,.inl hx,hp⟩
   ·exact⟨d,.inr rfl,hp⟩
  ·rintro⟨x,hx|rfl,hp⟩
   ·exact .inl ⟨x,hx,hp⟩
   ·exact .inr hp
theorem runL_lf {L:List Dc}{E:List En}{F:List Ef}(h:RunL L E F)(f:Int):lkF F f=itsF L f:=by
 induction h with
 |nil=>rfl
 |@snoc l d E E' F F' h h1 h2 ih=>
  rw[runF_lk h2,ih];simp[itsF,dits,List.filter_map,Function.comp_def]
theorem lkE_self {E:List En}(hn:(E.map (·.k)).Nodup){e:En}(he:e∈E):lkE E e.k=e.pl:=by
 obtain⟨E1,E2,rfl⟩:=List.append_of_mem he;unfold lkE;rw[find_mid hn,if_pos rfl]
def sortE (E:List En):List En:=E.mergeSort fun x y=>!(kylt y.k x.k)
theorem sortE_perm (E:List En):(sortE E).Perm E:=List.mergeSort_perm _ _
theorem kle_trans (a b c:Ky)(h1:(!(kylt b a))=true)(h2:(!(kylt c b))=true):(!(kylt c a))=true:=by
 rw[Bool.not_eq_true'] at h1 h2 ⊢;exact kylt_ntrans h2 h1
theorem kle_total (a b:Ky):((!(kylt b a))||(!(kylt a b)))=true:=by
 cases h:kylt b a with
 |false=>rfl
 |true=>rw[kylt_asymm h];rfl
theorem sortE_ord {E:List En}(hn:(E.map (·.k)).Nodup):((sortE E).map (·.k)).Pairwise fun x y=>kylt x y=true:=by
 have h1:=List.pairwise_mergeSort (le:=fun x y:En=>!(kylt y.k x.k)) (fun a b c=>kle_trans _ _ _) (fun a b=>kle_total _ _) E;have h2:((sortE E).map (·.k)).Nodup:=((sortE_perm E).map _).nodup_iff.2 hn;rw[List.pairwise_map];rw[List.Nodup,List.pairwise_map] at h2;refine(List.Pairwise.and h1 h2).imp fun {a b} hab=>?_;obtain⟨g1,g2⟩:=hab
 cases h3:kylt a.k b.k with
 |true=>rfl
 |false=>exact absurd (kylt_total h3 (by simpa using g1)) g2
theorem sortT_rows {E:List En}(hn:(E.map (·.k)).Nodup){rows:List (Ky×AV)}(hp:rows.Perm (E.map trow)):sortT rows=(sortE E).map trow:=by
 have hk:∀{l:List (Ky×AV)},l.Perm (E.map trow)→(l.map (·.1)).Nodup:=fun h=>(h.map _).nodup_iff.2 (by
  have:(E.map trow).map (·.1)=E.map (·.k):=by simp[trow,Function.comp_def]
  rw[this];exact hn)
 have p1:(sortT rows).Perm (E.map trow):=(List.mergeSort_perm _ _).trans hp;have p2:((sortE E).map trow).Perm (E.map trow):=(sortE_perm E).map _;have o1:(sortT rows).Pairwise fun x y=>(!(kylt y.1 x.1))=true:=List.pairwise_mergeSort (le:=fun x y:Ky×AV=>!(kylt y.1 x.1)) (fun a b c=>kle_trans _ _ _) (fun a b=>kle_total _ _) rows;have o2:((sortE E).map trow).Pairwise fun x y=>(!(kylt y.1 x.1))=true:=by
  rw[List.pairwise_map];exact List.pairwise_mergeSort (le:=fun x y:En=>!(kylt y.k x.k)) (fun a b c=>kle_trans _ _ _) (fun a b=>kle_total _ _) E
 refine List.Perm.eq_of_pairwise (le:=fun x y=>(!(kylt y.1 x.1))=true) ?_ o1 o2 (p1.trans p2.symm);intro x y hx hy h1 h2;have e:x.1=y.1:=kylt_total (by simpa using h2) (by simpa using h1);have hx':=p1.mem_iff.1 hx;have hy':=p2.mem_iff.1 hy;obtain⟨i,hi,e1⟩:=List.mem_iff_getElem.1 hx';obtain⟨j,hj,e2⟩:=List.mem_iff_getElem.1 hy';have hij:i=j:=(List.getElem_inj (xs:=(E.map trow).map (·.1)) (h₀:=by simpa using hi) (h₁:=by simpa using hj) (hk (.refl _))).1 (by
  simp only[List.getElem_map] at e1 e2 ⊢;rw[e1,e2,e])
 subst hij;rw[←e1,←e2]
theorem terms_eq {L:List Dc}{E:List En}{F:List Ef}(h:RunL L E F)(hs:L.Pairwise fun x y=>x.id<y.id)(hn:(E.map (·.k)).Nodup):(sortE E).map (fun e=>(⟨e.k.1,e.k.2,e.pl⟩:Tm))=termsF L:=by
 have hk:(sortE E).map (·.k)=keysF L:=kys_unique (sortE_ord hn) (keysF_ord L) fun x=>by
  rw[keysF_mem,←runL_ks h];exact((sortE_perm E).map _).mem_iff
 unfold termsF;rw[←hk,List.map_map];refine List.map_congr_left fun e he=>?_;have:=lkE_self hn ((sortE_perm E).mem_iff.1 he);rw[runL_lk h hs] at this;simp[this]
theorem cols_eq {L:List Dc}{E:List En}{F:List Ef}(h:RunL L E F)(hp:∀e∈F,0<e.x.length):(colE F 3).map (fun e=>(⟨e.f,e.x⟩:Cl))=colsF L:=by
 have one:∀g:Nat,(match F.find? (fun e=>e.f==(5+g:Int)) with|some e=>[(⟨(srtF e).f,(srtF e).x⟩:Cl)]|none=>[])=colF L (5+g):=by
  intro g;have hlf:=runL_lf h (5+g);unfold lkF at hlf;unfold colF;rw[←hlf]
  cases hf:F.find? (fun e=>e.f==(5+g:Int)) with
  |none=>simp
  |some e=>
   have h1:=List.find?_some hf;have h2:=hp e (List.mem_of_find?_eq_some hf);have h3:e.f=5+g:=by simpa using h1
   simp only;rw[if_neg (by intro hh;rw[hh] at h2;simp at h2),isortN_eq];simp[srtF,h3]
 have o0:=one 0;have o1:=one 1;have o2:=one 2;unfold colsF;rw[show (5:Int)=5+((0:Nat):Int) by rfl,show (6:Int)=5+((1:Nat):Int) by rfl,show (7:Int)=5+((2:Nat):Int) by rfl,←o0,←o1,←o2];simp only[colE]
 cases F.find? (fun e=>e.f==(5+((0:Nat):Int)))<;>cases F.find? (fun e=>e.f==(5+((1:Nat):Int)))<;>cases F.find? (fun e=>e.f==(5+((2:Nat):Int)))<;>simp
end Go.Proofs.YtoejlmpbebjemaaGreat
namespace Seg
open Sug
theorem validD_parts {d:Dc}(h:validD d=true):(1≤d.id∧d.id≤1000000000)∧(∀i,i<d.zs.length→okZn d.zs i=true)∧∀i,i<d.ns.length→okNm d.ns i=true:=by
 unfold validD at h;simp only[Bool.and_eq_true,decide_eq_true_eq] at h;exact⟨h.1,fun i hi=>all_at h.2.1 hi,fun i hi=>all_at h.2.2 hi⟩
theorem okZn_parts {zs:List Zn}{i:Nat}(h:okZn zs i=true):lastZ zs i<(zs.getD i z0).f∧(zs.getD i z0).f≤4∧(zs.getD i z0).ws.length≠0∧∀k,k<(zs.getD i z0).ws.length→okWd (zs.getD i z0).ws k=true:=by
 unfold okZn at h;simp only[Bool.and_eq_true,decide_eq_true_eq] at h;exact⟨h.1.1,h.1.2,h.2.1,fun k hk=>all_at h.2.2 hk⟩
theorem okWd_parts {ws:List Wd}{k:Nat}(h:okWd ws k=true):okW (ws.getD k w0).1=true∧lastW ws k<(ws.getD k w0).2∧(ws.getD k w0).2≤1000000:=by
 unfold okWd at h;simp only[Bool.and_eq_true,decide_eq_true_eq] at h;exact⟨h.1,h.2.1,h.2.2⟩
theorem valid_pos {ws:List Wd}(h:∀k,k<ws.length→okWd ws k=true):∀k,k<ws.length→(k:Int)≤(ws.getD k w0).2
 |0,hk=>by have:=(okWd_parts (h 0 hk)).2.1;unfold lastW at this;rw[if_pos rfl] at this;omega
 |k+1,hk=>by
  have h1:=valid_pos h k (by omega);have h2:=(okWd_parts (h (k+1) hk)).2.1;unfold lastW at h2;rw[if_neg (by omega),Nat.add_sub_cancel] at h2;omega
theorem valid_ws {ws:List Wd}(h:∀k,k<ws.length→okWd ws k=true):ws.length≤1000001:=by
 rcases Nat.eq_zero_or_pos ws.length with h0|h0
 ·omega
 ·have h1:=valid_pos h (ws.length-1) (by omega);have h2:=(okWd_parts (h (ws.length-1) (by omega))).2.2;omega
theorem valid_field {zs:List Zn}(h:∀k,k<zs.length→okZn zs k=true):∀k,k<zs.length→(k:Int)+1≤(zs.getD k z0).f
 |0,hk=>by have:=(okZn_parts (h 0 hk)).1;unfold lastZ at this;rw[if_pos rfl] at this;omega
 |k+1,hk=>by
  have h1:=valid_field h k (by omega);have h2:=(okZn_parts (h (k+1) hk)).1;unfold lastZ at h2;rw[if_neg (by omega),Nat.add_sub_cancel] at h2;omega
theorem valid_zs {zs:List Zn}(h:∀k,k<zs.length→okZn zs k=true):zs.length≤4:=by
 rcases Nat.eq_zero_or_pos zs.length with h0|h0
 ·omega
 ·have h1:=valid_field h (zs.length-1) (by omega);have h2:=(okZn_parts (h (zs.length-1) (by omega))).2.1;omega
theorem valid_dwds {d:Dc}(h:validD d=true):(dwds d.zs).length≤4000004:=by
 obtain⟨_,h2,_⟩:=validD_parts h;have h4:=valid_zs h2;have:∀zs:List Zn,(∀z∈zs,z.ws.length≤1000001)→(dwds zs).length≤zs.length*1000001:=by
  intro zs
  induction zs with
  |nil=>intro _;simp[dwds]
  |cons z r ih=>
   intro hz;have h1:=ih fun y hy=>hz y (by simp[hy]);have h2:=hz z (by simp);have e:dwds (z::r)=zwds z.f z.ws++dwds r:=by simp[dwds]
   rw[e,List.length_append,List.length_cons];have:(zwds z.f z.ws).length=z.ws.length:=by simp[zwds]
   omega
 have h5:=this d.zs fun z hz=>by
  obtain⟨i,hi,e⟩:=Go.Am.mem_getD z0 hz;have:=valid_ws (okZn_parts (h2 i hi)).2.2.2;rw[e] at this;exact this
 omega
end Seg
namespace Go.Proofs.YtoejlmpbebjemaaGreat
open Go Go.Am Sug Seg
theorem valid_good {d:Dc}(h:validD d=true)(hs:SzD d):GoodD d:=by
 obtain⟨_,h2,h3⟩:=validD_parts h;refine⟨fun z hz=>⟨?_,(hs.w z hz).2⟩,fun x hx=>?_⟩
 ·obtain⟨i,hi,e⟩:=mem_getD z0 hz;have h4:=valid_field h2 i hi;have h5:=(okZn_parts (h2 i hi)).2.1;rw[e] at h4 h5;omega
 ·obtain⟨i,hi,e⟩:=mem_getD n0 hx;have:=h3 i hi;unfold okNm okNv at this;simp only[Bool.and_eq_true,decide_eq_true_eq] at this;rw[e] at this;omega
theorem wsum_bound:∀l:List Dc,(∀d∈l,validD d=true)→wsum l≤l.length*4000004
 |[],_=>by simp[wsum]
 |d::r,h=>by
  have h1:=wsum_bound r fun x hx=>h x (by simp[hx]);have h2:=valid_dwds (h d (by simp));have:wsum (d::r)=(dwds d.zs).length+wsum r:=by simp[wsum]
  rw[this,List.length_cons];omega
theorem nsum_bound:∀l:List Dc,(∀d∈l,d.ns.length≤1000000)→nsum l≤l.length*1000000
 |[],_=>by simp[nsum]
 |d::r,h=>by
  have h1:=nsum_bound r fun x hx=>h x (by simp[hx]);have h2:=h d (by simp);have:nsum (d::r)=d.ns.length+nsum r:=by simp[nsum]
  rw[this,List.length_cons];omega
theorem frz_rows {α:Type}{fa fb:α→List AV}{k n0 t0:Nat}{H:List Blk}(ha:CellsK fa k)(hb:CellsK fb k):∀(l:List α) (h:∀x∈l,∀j,j<k→Frz n0 t0 H ((fa x).getD j .top) ((fb x).getD j .top)) (rest:List AV) (j:Nat) (hj:j<(l.flatMap fb).length),Frz n0 t0 H ((l.flatMap fa++rest).getD j .top) ((l.flatMap fb)[j]'hj)
 |[],_,_,j,hj=>by simp at hj
 |x::r,h,rest,j,hj=>by
  have hx:=h x (by simp)
  by_cases hjk:j<k
  ·have e1:((x::r).flatMap fa++rest).getD j .top=(fa x).getD j .top:=by
    rw[List.flatMap_cons,List.append_assoc,List.getD_eq_getElem?_getD,List.getD_eq_getElem?_getD,List.getElem?_append_left (by rw[ha];exact hjk)]
   have e2:((x::r).flatMap fb)[j]'hj=(fb x).getD j .top:=by
    have:j<(fb x).length:=by rw[hb];exact hjk
    simp only[List.flatMap_cons];rw[List.getElem_append_left this,List.getD_eq_getElem?_getD,List.getElem?_eq_getElem this];rfl
   rw[e1,e2];exact hx j hjk
  ·have hl:((x::r).flatMap fb).length=k+(r.flatMap fb).length:=by rw[List.flatMap_cons,List.length_append,hb]
   have ih:=frz_rows ha hb r (fun y hy=>h y (by simp[hy])) rest (j-k) (by omega);have e1:((x::r).flatMap fa++rest).getD j .top=(r.flatMap fa++rest).getD (j-k) .top:=by
    rw[List.flatMap_cons,List.append_assoc,List.getD_eq_getElem?_getD,List.getD_eq_getElem?_getD,List.getElem?_append_right (by rw[ha];omega),ha]
   have e2:((x::r).flatMap fb)[j]'hj=(r.flatMap fb)[j-k]'(by omega):=by
    simp only[List.flatMap_cons];rw[List.getElem_append_right (by rw[hb];omega)];simp only[hb x]
   rw[e1,e2];exact ih
theorem frz_post {n0 t0:Nat}{H:List Blk}{e:En}(hi:n0≤e.i)(hH:H[e.i]?=some e.blk):Frz n0 t0 H (.msl e.i 0 e.n) (.sl e.pl.length (psAV e.pl) .none):=by
 have hn:e.n=e.pl.length:=by simp[En.n,En.pl]
 have hps:psAV e.pl=(e.ini++[((e.d,e.at_),Tag.own e.tk)]).flatMap fun x=>psC x.1:=by simp[En.pl,psAV,List.flatMap_map]
 have hvs:e.blk=.cells ((e.ini++[((e.d,e.at_),Tag.own e.tk)]).flatMap pwC++e.rest):=by
  unfold En.blk boxC pwAV lastC;simp
 rw[hvs] at hH;rw[hn,hps];refine .msl hi hH ?_ fun j hj=>?_
 ·rw[List.length_append,rows_len (f:=fun x:Ps×Tag=>psC x.1) (k:=2) (fun _=>rfl),rows_len pw_rows];omega
 ·rw[Nat.zero_add];refine frz_rows (fa:=pwC) (fb:=fun x=>psC x.1) pw_rows (fun _=>rfl) _ (fun x _ j hj=>?_) e.rest j hj
  match j,hj with
  |0,_=>exact .keep (.inl rfl) (.int _ _)
  |1,_=>exact .keep (.inr rfl) (by simp)
theorem frz_terms {n0 t0:Nat}{H:List Blk}{l:List En}{it n:Nat}{rest:List AV}(hit:n0≤it)(hH:H[it]?=some (.cells (trAV (l.map trow)++rest)))(he:∀e∈l,n0≤e.i∧H[e.i]?=some e.blk):Frz n0 t0 H (.msl it 0 n) (.sl n (tmAV (l.map fun e=>(⟨e.k.1,e.k.2,e.pl⟩:Tm))) .none):=by
 have h1:trAV (l.map trow)=l.flatMap fun e=>trC (trow e):=by simp[trAV,List.flatMap_map]
 have h2:tmAV (l.map fun e=>(⟨e.k.1,e.k.2,e.pl⟩:Tm))=l.flatMap fun e=>tmC ⟨e.k.1,e.k.2,e.pl⟩:=by simp[tmAV,List.flatMap_map]
 rw[h1] at hH;rw[h2];refine .msl hit hH ?_ fun j hj=>?_
 ·rw[List.length_append,rows_len (f:=fun e:En=>tmC ⟨e.k.1,e.k.2,e.pl⟩) (k:=3) (fun _=>rfl),rows_len (f:=fun e:En=>trC (trow e)) (k:=3) (fun _=>rfl)];omega
 ·rw[Nat.zero_add];refine frz_rows (fa:=fun e=>trC (trow e)) (fb:=fun e=>tmC ⟨e.k.1,e.k.2,e.pl⟩) (k:=3) (fun _=>rfl) (fun _=>rfl) l (fun e hel j hj=>?_) rest j hj
  match j,hj with
  |0,_=>exact .keep (.inl rfl) (.int _ _)
  |1,_=>exact .keep (.inl rfl) (.str _)
  |2,_=>exact frz_post (he e hel).1 (he e hel).2
theorem frz_termsC {n0 t0:Nat}{H:List Blk}{l:List En}{it n cap:Nat}{rest:List AV}(hit:n0≤it)(hH:H[it]?=some (.cells (trAV (l.map trow)++rest)))(he:∀e∈l,n0≤e.i∧H[e.i]?=some e.blk):Frz n0 t0 H (.csl it n cap) (.sl n (tmAV (l.map fun e=>(⟨e.k.1,e.k.2,e.pl⟩:Tm))) .none):=by
 have h1:trAV (l.map trow)=l.flatMap fun e=>trC (trow e):=by simp[trAV,List.flatMap_map]
 have h2:tmAV (l.map fun e=>(⟨e.k.1,e.k.2,e.pl⟩:Tm))=l.flatMap fun e=>tmC ⟨e.k.1,e.k.2,e.pl⟩:=by simp[tmAV,List.flatMap_map]
 rw[h1] at hH;rw[h2];refine .csl hit hH ?_ fun j hj=>?_
 ·rw[List.length_append,rows_len (f:=fun e:En=>tmC ⟨e.k.1,e.k.2,e.pl⟩) (k:=3) (fun _=>rfl),rows_len (f:=fun e:En=>trC (trow e)) (k:=3) (fun _=>rfl)];omega
 ·refine frz_rows (fa:=fun e=>trC (trow e)) (fb:=fun e=>tmC ⟨e.k.1,e.k.2,e.pl⟩) (k:=3) (fun _=>rfl) (fun _=>rfl) l (fun e hel j hj=>?_) rest j hj
  match j,hj with
  |0,_=>exact .keep (.inl rfl) (.int _ _)
  |1,_=>exact .keep (.inl rfl) (.str _)
  |2,_=>exact frz_post (he e hel).1 (he e hel).2
theorem frz_cols {n0 t0:Nat}{H:List Blk}{l:List Ef}{n:Nat}{tg:Tag}(he:∀e∈l,n0≤e.i∧H[e.i]?=some (Ef.blk e)):Frz n0 t0 H (.sl n (ccAV l) tg) (.sl n (clAV (l.map fun e=>(⟨e.f,e.x⟩:Cl))) .none):=by
 have h1:ccAV l=l.flatMap ccC++[]:=by simp[ccAV]
 have h2:clAV (l.map fun e=>(⟨e.f,e.x⟩:Cl))=l.flatMap fun e=>clC ⟨e.f,e.x⟩:=by simp[clAV,List.flatMap_map]
 rw[h2];refine .sl ?_ fun j hj=>?_
 ·rw[ccAV_len,rows_len (f:=fun e:Ef=>clC ⟨e.f,e.x⟩) (k:=2) (fun _=>rfl)]
 ·rw[h1];refine frz_rows (fa:=ccC) (fb:=fun e=>clC ⟨e.f,e.x⟩) cc_rows (fun _=>rfl) l (fun e hel j hj=>?_) [] j hj
  match j,hj with
  |0,_=>exact .keep (.inl rfl) (.int _ _)
  |1,_=>exact .msl0 (he e hel).1 (he e hel).2 (by simp)
def BQ (H:List Blk)(T:Toks)(r0:AV):AV→List Blk→Toks→Prop:=fun r H' T'=>(∃G,H'=H++G)∧(∃rT,T'=T++rT)∧Frz H.length T.length H' r r0
theorem colE_mem {F:List Ef}:∀{g:Nat} {e:Ef},e∈colE F g→∃e0∈F,e=srtF e0∧5≤e0.f∧e0.f<5+g
 |0,e,h=>by simp[colE] at h
 |g+1,e,h=>by
  unfold colE at h
  split at h
  ·rename_i e0 hf;rcases List.mem_append.1 h with h|h
   ·obtain⟨x,h1,h2,h3,h4⟩:=colE_mem h;exact⟨x,h1,h2,h3,by omega⟩
   ·simp at h;have h1:=List.find?_some hf;have h2:e0.f=5+g:=by simpa using h1
    exact⟨e0,List.mem_of_find?_eq_some hf,h,by omega,by omega⟩
  ·obtain⟨x,h1,h2,h3,h4⟩:=colE_mem h;exact⟨x,h1,h2,h3,by omega⟩
attribute [-simp] List.getD_eq_getElem?_getD in
theorem build_end (H:List Blk)(T:Toks)(nb tb N M:Nat)(hnb:nb≤H.length)(htb:tb≤T.length)(L:List Dc)(b2 b4 b5 b6 td:Nat)(E:List En)(F:List Ef)(J:List Blk)(U:Toks)
  (hB:DI H T b2 b4 b5 b6 td N M J U (L.map (·.id)) E F) (hR:RunL L E F) (hs:L.Pairwise fun x y=>x.id<y.id) (hEl:E.length≤1099511627776) (hM:M≤1099511627776) (hb2:H.length≤b2) (hb4:H.length≤b4) :
  AW ⟨Tryz.prog,192,152,nb,tb,[100104,100147,100166]⟩ (subC [1,1,1,1,1,1,1,1,1] (Tryz.f68.body.getD .skip)) (RetQ Tryz.prog Tryz.f68.results.toList (BQ H T (.tup [sgAV ⟨L.map (·.id),termsF L,colsF L⟩,.int .i64 0]))) ⟨[(2,.ptr b2 0),(4,.ptr b4 0),(5,.mref b5),(6,.mref b6)],J,U⟩:=by
 conv=>arg 2;whnf
 have hBe:=hB.hE;have hBn:=hB.ndE;have hBF:=hB.hF;have hBnF:=hB.ndF;have hBfF:=hB.ftF;have hpU:=hB.pU;have lTU:=hpU.le;have htd:=hB.hU.lt (i:=td) (b:=((L.map (·.id)).length,1)) (by simp);have hte:=terms_eq hR hs hBn;have hce:=cols_eq hR (fun e he=>(hBF e he).p);refine aw_then fun K1 hK1=>?_;refine terms_loop H T nb tb N M hnb htb b2 b4 b5 b6 td (L.map (·.id)) E F J U hB hEl hb4 _ fun e J1 rows tv TB t1 t2 t3 t4 t5 t6=>?_;have lH1:=t4.le;have l21:=t3.lt (i:=b2) (b:=.cells [.sl 0 [] .full,.sl 0 [] .full,.sl 0 [] .full]) (by simp);have l41:=t3.lt (i:=b4) (b:=.cells [.sl (L.map (·.id)).length (ints (L.map (·.id))) (.own td),tv,.sl 0 [] .full]) (by simp);have l51:=t3.lt (i:=b5) (b:=.map (esOf E)) (by simp);have l61:=t3.lt (i:=b6) (b:=.map (ecOf F)) (by simp);have e4:=at_of (t3.get (i:=b4) (b:=.cells [.sl (L.map (·.id)).length (ints (L.map (·.id))) (.own td),tv,.sl 0 [] .full]) (by simp));refine hK1 _ (aw_weak ⟨[(2,.ptr b2 0),(4,.ptr b4 0),(5,.mref b5),(6,.mref b6)],J1,U⟩ (weak_to [] [] (by simp) (by simp) (by show nb≤J1.length;omega) (by show tb≤U.length;omega) t5 t6) ?_);clear hK1;have hsr:=sortT_rows hBn t1;generalize hids:L.map (·.id)=ids at *;have fin:∀(e:Env) (J2:List Blk) (it n cap:Nat) (rest:List AV) (R2:List (Nat×Blk)),Has J2 ((b4,.cells [.sl ids.length (ints ids) (.own td),tv,.sl 0 [] .full])::(b6,.map (ecOf F))::(efS F++((b2,.cells [.sl 0 [] .full,.sl 0 [] .full,.sl 0 [] .full])::(R2++entS E))))→
   ((E=[]∧tv=.sl 0 [] .full)∨(tv=.csl it (sortE E).length cap∧(it,.cells (trAV ((sortE E).map trow)++rest))∈R2∧H.length≤it))→Pre H J2→HOk J2 U→J1.length≤J2.length→envLe J2.length U.length e [(2,.ptr b2 0),(4,.ptr b4 0),(6,.mref b6)]→
   AW ⟨Tryz.prog,192,152,nb,tb,[100104,100147,100166]⟩ (subC [1,1] (subC [1,1,1,1,1,1,1,1,1] (Tryz.f68.body.getD .skip))) (RetQ Tryz.prog Tryz.f68.results.toList (BQ H T (.tup [sgAV ⟨ids,termsF L,colsF L⟩,.int .i64 0]))) ⟨e,J2,U⟩:=by
  intro e J2 it n cap rest R2 hJ2 htv hP2 hO2 hl2 he
  conv=>arg 2;whnf
  have lH2:=hP2.le;have l22:=hJ2.lt (i:=b2) (b:=.cells [.sl 0 [] .full,.sl 0 [] .full,.sl 0 [] .full]) (by simp);have l42:=hJ2.lt (i:=b4) (b:=.cells [.sl ids.length (ints ids) (.own td),tv,.sl 0 [] .full]) (by simp);have l62:=hJ2.lt (i:=b6) (b:=.map (ecOf F)) (by simp);have hbt:Below J2.length U.length tv:=by
   rcases htv with⟨_,h⟩|⟨h,hm,_⟩
   ·rw[h];simp
   ·rw[h];exact .csl _ _ _ (hJ2.lt (i:=it) (b:=.cells (trAV ((sortE E).map trow)++rest)) (by simp[hm]))
  refine aw_then fun K2 hK2=>?_;refine aw_weak ⟨[(2,.ptr b2 0),(4,.ptr b4 0),(6,.mref b6)],J2,U⟩ (weak_to [] [] (by simp) (by simp) (by show nb≤J2.length;omega) (by show tb≤U.length;omega) hO2 he) ?_;refine cols_loop (N:=M) H T nb tb hnb htb b2 b4 b6 _ tv F J2 U ((b2,.cells [.sl 0 [] .full,.sl 0 [] .full,.sl 0 [] .full])::(R2++entS E)) hJ2 hBF hM hBnF hBfF hP2 hpU hO2 hb4 l22 hbt (by simp;omega) _ fun e J3 U3 cv c1 c2 c3 c4 c5 c6 c7=>?_;have lH3:=c3.le;have lT3:=c4.le;have l23:b2<J3.length:=by omega
  have l43:b4<J3.length:=by omega
  have e4:=at_of (c2.get (i:=b4) (b:=.cells [.sl ids.length (ints ids) (.own td),tv,cv]) (by simp));refine hK2 _ (aw_weak ⟨[(2,.ptr b2 0),(4,.ptr b4 0)],J3,U3⟩ (weak_to [] [] (by simp) (by simp) (by show nb≤J3.length;omega) (by show tb≤U3.length;omega) c5 (by simp at c7;simp[c7])) ?_);clear hK2;have hcl:∀X,Has (J3.set b2 X) ((b4,.cells [.sl ids.length (ints ids) (.own td),tv,cv])::(b6,.map (ecOf F))::(efS (srtTo 8 F)++((b2,X)::(R2++entS E)))):=fun X=>by
   have:=Has.set (A:=(b4,.cells [.sl ids.length (ints ids) (.own td),tv,cv])::(b6,.map (ecOf F))::efS (srtTo 8 F)) (B:=R2++entS E) (b:=.cells [.sl 0 [] .full,.sl 0 [] .full,.sl 0 [] .full]) (by simpa using c2) X;simpa using this
  have fz:∀X (dv' tv' cv':AV),(dv'=.sl ids.length (ints ids) (.own td)∨dv'=.sl ids.length (ints ids) .none)→(tv'=tv∨tv'=untag tv)→(cv'=cv∨cv'=untag cv)→
    BQ H T (.tup [sgAV ⟨ids,termsF L,colsF L⟩,.int .i64 0]) (.tup [.agg [dv',tv',cv'],.int .i64 0]) (J3.set b2 X) U3:=by
   intro X dv' tv' cv' hd ht hc;refine⟨c3.set hb2 _,c4,Frz.pair (.agg rfl fun j hj=>?_) (.keep (.inl rfl) (.int _ _))⟩
   match j,hj with
   |0,_=>
    rcases hd with rfl|rfl
    ·exact .keep (.inr rfl) (by simp)
    ·exact .keep (.inl rfl) (by simp)
   |1,_=>
    show Frz _ _ _ tv' (.sl (termsF L).length (tmAV (termsF L)) .none);rcases htv with⟨h0,rfl⟩|⟨rfl,hm,hi⟩
    ·have:termsF L=[]:=by rw[←hte,h0];simp[sortE]
     rw[this];rcases ht with rfl|rfl
     ·exact .keep (.inr rfl) (by simp[tmAV_nil])
     ·exact .keep (.inl rfl) (by simp[tmAV_nil])
    ·have hee:∀e∈sortE E,H.length≤e.i∧(J3.set b2 X)[e.i]?=some e.blk:=fun e hel=>by
      have heE:=(sortE_perm E).mem_iff.1 hel;exact⟨(hBe e heE).i,(hcl X).get (i:=e.i) (b:=e.blk) (by
       have:(e.i,e.blk)∈entS E:=List.mem_map.2 ⟨e,heE,rfl⟩;simp[this])⟩
     have hfr:Frz H.length T.length (J3.set b2 X) (.msl it 0 (sortE E).length) (.sl (termsF L).length (tmAV (termsF L)) .none):=by
      have hn:(termsF L).length=(sortE E).length:=by rw[←hte];simp
      rw[hn,←hte];exact frz_terms (rest:=rest) hi ((hcl X).get (by simp[hm])) hee
     rcases ht with rfl|rfl
     ·have hn:(termsF L).length=(sortE E).length:=by rw[←hte];simp
      rw[hn,←hte];exact frz_termsC (rest:=rest) hi ((hcl X).get (by simp[hm])) hee
     ·exact hfr
   |2,_=>
    show Frz _ _ _ cv' (.sl (colsF L).length (clAV (colsF L)) .none);have hn:(colsF L).length=(colE F 3).length:=by rw[←hce];simp
    have hfc:∀tg,Frz H.length T.length (J3.set b2 X) (.sl (colE F 3).length (ccAV (colE F 3)) tg) (.sl (colsF L).length (clAV (colsF L)) .none):=fun tg=>by
     rw[hn,←hce];refine frz_cols fun e hel=>?_;obtain⟨e0,h1,rfl,h2,h3⟩:=colE_mem hel;have hmem:(e0.i,Ef.blk (srtF e0))∈efS (srtTo 8 F):=by
      refine List.mem_map.2 ⟨srtF e0,List.mem_map.2 ⟨e0,h1,?_⟩,rfl⟩;rw[if_pos (by omega)]
     exact⟨(hBF e0 h1).i,(hcl X).get (i:=e0.i) (b:=Ef.blk (srtF e0)) (by simp[hmem])⟩
    rcases c1 with⟨h0,rfl⟩|⟨tc,rfl,_,_⟩
    ·have h1:=hfc .full;rw[h0] at h1;rcases hc with rfl|rfl
     ·exact h1
     ·have h2:=hfc .none;rw[h0] at h2;exact h2
    ·rcases hc with rfl|rfl
     ·exact hfc _
     ·exact hfc .none
  have e2:=at_of (c2.get (i:=b2) (b:=.cells [.sl 0 [] .full,.sl 0 [] .full,.sl 0 [] .full]) (by simp));refine aw_reg fun K hK=>?_;simp(disch:=omega)[e4,e2];apply hK;clear hK K;apply aw_ret;simp(disch:=omega) ;exact fz _ _ _ _ (.inl rfl) (.inl rfl) (.inl rfl)
 rcases t2.h with⟨hr0,rfl,rfl⟩|⟨it,cap,rest,rfl,rfl,g1,g2,g3,g4⟩
 ·have cs:=fun H T tg=>sortTm0_ok H T tg;have hE0:E=[]:=by
   have:=t1.length_eq;rw[hr0] at this;simp at this;exact List.length_eq_zero_iff.1 this.symm
  refine aw_reg fun K hK=>?_;simp(disch:=omega)[e4];refine acall_is (cs _ _ _) ?_;simp(disch:=omega) ;apply hK;clear hK K;refine fin _ J1 0 0 0 [] [] ?_ (.inl ⟨hE0,rfl⟩) t4 t5 (Nat.le_refl _) (by simp;omega);have h1:Has J1 ((b4,.cells [.sl ids.length (ints ids) (.own td),.sl 0 [] .full,.sl 0 [] .full])::(b2,.cells [.sl 0 [] .full,.sl 0 [] .full,.sl 0 [] .full])::(b6,.map (ecOf F))::(efS F++entS E)):=t3.sub (.cons_cons _ (.cons_cons _ (.cons_cons _ (List.sublist_cons_self _ _))));refine h1.perm (List.Perm.cons _ ?_);exact(List.Perm.cons _ List.perm_middle).trans (List.Perm.swap _ _ _)
 ·have gi:=t3.get (i:=it) (b:=.cells (trAV rows++rest)) (by simp);have lit:=(List.getElem?_eq_some_iff.1 gi).1;have hrne:rows≠[]:=fun h=>by rw[h] at g4;simp at g4
  have hrn:rows.length=(sortE E).length:=by
   have:=t1.length_eq;rw[List.length_map] at this;rw[this];exact(sortE_perm E).length_eq.symm
  have hrd:rows.Pairwise fun x y=>x.1≠y.1:=by
   have h1:((E.map trow).map (·.1)).Nodup:=by
    have:(E.map trow).map (·.1)=E.map (·.k):=by simp[trow,Function.comp_def]
    rw[this];exact hBn
   have h2:=(t1.map (·.1)).nodup_iff.2 h1;rw[List.Nodup,List.pairwise_map] at h2;exact h2
  have hrl:rows.length≤1099511627776:=by
   rw[hrn,(sortE_perm E).length_eq];exact hEl
  have cs:=fun U=>sortTm_ok rows hrne hrd rest it cap hrl J1 U gi;rw[hsr] at cs;have hJ2:=Has.set (A:=[(b4,.cells [.sl ids.length (ints ids) (.own td),.csl it rows.length cap,.sl 0 [] .full])]) (B:=(b2,.cells [.sl 0 [] .full,.sl 0 [] .full,.sl 0 [] .full])::(b6,.map (ecOf F))::(b5,.map (esOf E))::(efS F++entS E)) (b:=.cells (trAV rows++rest)) (by simpa using t3) (.cells (trAV ((sortE E).map trow)++rest));have hP2:=t4.set g3 (.cells (trAV ((sortE E).map trow)++rest));have hl2:(J1.set it (.cells (trAV ((sortE E).map trow)++rest))).length=J1.length:=by simp
  refine aw_reg fun K hK=>?_;simp(disch:=omega)[e4];refine acall_is (cs _) ?_;simp(disch:=omega) ;apply hK;clear hK K;refine aw_hok fun HO2=>?_;simp only at HO2;refine fin _ _ it 0 cap rest [(it,.cells (trAV ((sortE E).map trow)++rest))] ?_ (.inr ⟨by rw[hrn],by simp,g3⟩) hP2 HO2 (by omega) (by simp;omega);have h1:Has (J1.set it (.cells (trAV ((sortE E).map trow)++rest))) ((b4,.cells [.sl ids.length (ints ids) (.own td),.csl it rows.length cap,.sl 0 [] .full])::(it,.cells (trAV ((sortE E).map trow)++rest))::(b2,.cells [.sl 0 [] .full,.sl 0 [] .full,.sl 0 [] .full])::(b6,.map (ecOf F))::(efS F++entS E)):=hJ2.sub (.cons_cons _ (.cons_cons _ (.cons_cons _ (.cons_cons _ (List.sublist_cons_self _ _)))));refine h1.perm (List.Perm.cons _ ?_);refine(List.Perm.cons _ (List.perm_middle.trans (List.Perm.cons _ List.perm_middle))).trans ?_;exact(List.Perm.swap _ _ _).trans ((List.Perm.cons _ (List.Perm.swap _ _ _)).trans (List.Perm.swap _ _ _))
theorem frz_none {n0 t0:Nat}{H:List Blk}(x:Int):Frz n0 t0 H (.tup [.agg [.sl 0 [] .full,.sl 0 [] .full,.sl 0 [] .full],.int .i64 x]) (.tup [sgAV noSeg,.int .i64 x]):=by
 refine Frz.pair (.agg rfl fun j hj=>?_) (.keep (.inl rfl) (.int _ _))
 match j,hj with
 |0,_=>exact .keep (.inr rfl) (by simp[noSeg])
 |1,_=>exact .keep (.inr rfl) (by simp[noSeg,tmAV_nil])
 |2,_=>exact .keep (.inr rfl) (by simp[noSeg,clAV_nil])
theorem len_sub {α:Type}[DecidableEq α]:∀{l m:List α},l.Nodup→(∀x∈l,x∈m)→l.length≤m.length
 |[],_,_,_=>Nat.zero_le _
 |a::l,m,hn,h=>by
  have ⟨h1,h2⟩:=List.nodup_cons.1 hn;have ha:=h a (by simp);have:=len_sub (m:=m.erase a) h2 fun x hx=>by
   have hne:x≠a:=fun e=>h1 (e▸hx);exact(List.mem_erase_of_ne hne).2 (h x (by simp[hx]))
  rw[List.length_erase_of_mem ha] at this;have:=List.length_pos_of_mem ha;simp;omega
theorem runL_len {L:List Dc}{E:List En}{F:List Ef}(h:RunL L E F):E.length≤wsum L:=by
 have one:∀{id:Int} {E E':List En} {l:List (Ky×Int)},RunE id E l E'→(E.map (·.k)).Nodup→E'.length≤E.length+l.length:=by
  intro id E E' l h hn
  induction h with
  |nil=>simp
  |@snoc E1 E2 l k p h h2 ih=>
   have hn1:=h.nd hn;have h3:E2.length≤E1.length+1:=by
    have:=len_sub h2.nd (m:=k::E1.map (·.k)) fun x hx=>by
     rcases (h2.ks x).1 hx with rfl|hx
     ·simp
     ·simp[hx]
    simpa using this
   simp;omega
 have nd:∀{L:List Dc} {E:List En} {F:List Ef},RunL L E F→(E.map (·.k)).Nodup:=by
  intro L E F h
  induction h with
  |nil=>simp
  |snoc _ h1 _ ih=>exact h1.nd ih
 induction h with
 |nil=>simp
 |@snoc l d E E' F F' h h1 h2 ih=>
  have:=one h1 (nd h);rw[wsum_app];have e:wsum [d]=(dwds d.zs).length:=by simp[wsum]
  omega
theorem buildP_ok (l : List Dc) (hl : l.length ≤ 40) (hs : ∀ d ∈ l, SzD d) (hn : ∀ d ∈ l, d.ns.length ≤ 1000000) (H : List Blk) (T : Toks) (tg : Tag) :
    ACall Tryz.prog 68 [.sl l.length (dcAV l) tg] H T (Is (.tup [sgAV (buildF l).1, .int .i64 (buildF l).2]) H T) := by
  refine ACall.untag1 ?_;refine ACall.frz ?_;show ACall Tryz.prog _ _ H T (BQ H T _);have cl := fun h H T => cloneD_ok l h (by omega) H T .none;have cl0 := fun H T => cloneD0_ok H T .none;have b0 : decide ((2000 : Int) < l.length) = false := decide_eq_false (by omega);have n0 : ¬ (2000 : Int) < l.length := by omega
  have hb0 : ¬ 2000 < l.length := by omega
  refine acall_enter 152 [100104,100147,100166] Tryz.ntmps68 Tryz.func68 rfl (fun _ _ => Tryz.call68 _ _) (by simp) (fun HO => ?_);have HO1 : HOk (H ++ [.cells [.sl 0 [] .full, .sl 0 [] .full, .sl 0 [] .full]]) T := HO.snoc (by simp);refine aw_reg fun K hK => ?_; simp (disch := omega) [-List.getD_eq_getElem?_getD]; refine hK _ ?_; clear hK K;refine aw_then fun K1 hK1 => ?_;refine aw_reg fun K hK => ?_; simp (disch := omega) [-List.getD_eq_getElem?_getD, b0, n0]; refine hK _ ?_; clear hK K;apply aw_iff rfl;apply aw_skip; simp (disch := omega) [-List.getD_eq_getElem?_getD];refine hK1 _ ?_; clear hK1;have mid : ∀ (e : Env) (L : List Dc), InOrd l L → envLe (H.length + 1) T.length e [(0, .sl L.length (dcAV L) .none), (2, .ptr H.length 0)] →
      AW ⟨Tryz.prog, 192, 152, H.length, T.length, [100104, 100147, 100166]⟩ (subC [1, 1, 1, 1] (Tryz.f68.body.getD .skip)) (RetQ Tryz.prog Tryz.f68.results.toList (BQ H T (.tup [sgAV (buildF l).1, .int .i64 (buildF l).2]))) ⟨e, H ++ [.cells [.sl 0 [] .full, .sl 0 [] .full, .sl 0 [] .full]], T⟩ := by
    intro e L hL he
    conv => arg 2; whnf
    have hLl := hL.len;have hsL : ∀ d ∈ L, SzD d := fun d hd => hs d (hL.perm.mem_iff.1 hd);have hany : L.any (fun d => !validD d) = l.any (fun d => !validD d) := by
      rw [Bool.eq_iff_iff, List.any_eq_true, List.any_eq_true];exact ⟨fun ⟨d, h1, h2⟩ => ⟨d, hL.perm.mem_iff.1 h1, h2⟩, fun ⟨d, h1, h2⟩ => ⟨d, hL.perm.mem_iff.2 h1, h2⟩⟩
    have cc := fun H T => containsD_ok L (by have : (40 : Nat) ≤ maxLen := by decide
                                             omega) hsL H T .none
    rw [hany] at cc;refine aw_weak ⟨[(0, .sl L.length (dcAV L) .none), (2, .ptr H.length 0)], H ++ [.cells [.sl 0 [] .full, .sl 0 [] .full, .sl 0 [] .full]], T⟩ (weak_to [] [] (by simp) (by simp) (by simp) (by simp) HO1 (by simpa using he)) ?_;refine aw_then fun K2 hK2 => ?_
    cases hva : l.any (fun d => !validD d) with
    | true =>
      rw [hva] at cc
      have hF : buildF l = (noSeg, 1) := by unfold buildF; rw [if_neg hb0, if_pos hva]
      refine aw_reg fun K hK => ?_; simp (disch := omega) [-List.getD_eq_getElem?_getD]
      refine acall_is (cc _ _) ?_; simp (disch := omega) [-List.getD_eq_getElem?_getD]
      refine hK _ ?_; clear hK K
      apply aw_ift rfl
      refine aw_reg fun K hK => ?_; simp (disch := omega) [-List.getD_eq_getElem?_getD]; refine hK _ ?_; clear hK K
      apply aw_ret; simp (disch := omega) [-List.getD_eq_getElem?_getD]
      rw [hF]
      exact ⟨⟨_, rfl⟩, ⟨[], by simp⟩, frz_none 1⟩
    | false =>
      rw [hva] at cc
      have hval : ∀ d ∈ l, validD d = true := fun d hd => by
        have := List.any_eq_false.1 hva d hd;simpa using this
      have hvalL : ∀ d ∈ L, validD d = true := fun d hd => hval d (hL.perm.mem_iff.1 hd)
      refine aw_reg fun K hK => ?_; simp (disch := omega) [-List.getD_eq_getElem?_getD]
      refine acall_is (cc _ _) ?_; simp (disch := omega) [-List.getD_eq_getElem?_getD]
      refine hK _ ?_; clear hK K
      apply aw_iff rfl
      apply aw_skip; simp (disch := omega) [-List.getD_eq_getElem?_getD]
      refine hK2 _ ?_; clear hK2
      refine aw_reg fun K hK => ?_; simp (disch := omega) [-List.getD_eq_getElem?_getD]; refine hK _ ?_; clear hK K
      refine aw_ownC 1 0 (H ++ [.cells [.sl 0 [] .full, .sl 0 [] .full, .sl 0 [] .full]]) [.sl 0 [] .full, .sl 0 [] .full, .sl 0 [] .full] 0 [] (by omega) rfl (by simp) ?_
      refine aw_reg fun K hK => ?_; simp (disch := omega) [-List.getD_eq_getElem?_getD]; refine hK _ ?_; clear hK K
      refine aw_reg fun K hK => ?_; simp (disch := omega) [-List.getD_eq_getElem?_getD]; refine hK _ ?_; clear hK K
      refine aw_hok fun HO4 => ?_
      simp only at HO4
      have hDI : DI H T H.length (H.length + 1) (H.length + 2) (H.length + 3) T.length 0 0 (H ++ [.cells [.sl 0 [] .full, .sl 0 [] .full, .sl 0 [] .full], .cells [.sl 0 [] (.own T.length), .sl 0 [] .full, .sl 0 [] .full], .map [], .map []]) (T ++ [(0, 1)]) [] [] [] := by
        refine ⟨⟨by simp [efS, entS], fun p hp => ?_⟩, ⟨by simp [entT], fun p hp => ?_⟩, fun e he => by simp at he, by simp, rfl, fun e he => by simp at he, by simp, rfl, ⟨_, rfl⟩, ⟨_, rfl⟩, by simpa using HO4⟩
        · simp [efS, entS, ecOf, esOf] at hp;rcases hp with rfl | rfl | rfl | rfl <;> simp
        · simp [entT] at hp;subst hp; simp
      refine aw_weak ⟨[(0, .sl L.length (dcAV L) .none), (2, .ptr H.length 0), (4, .ptr (H.length + 1) 0), (5, .mref (H.length + 2)), (6, .mref (H.length + 3))], H ++ [.cells [.sl 0 [] .full, .sl 0 [] .full, .sl 0 [] .full], .cells [.sl 0 [] (.own T.length), .sl 0 [] .full, .sl 0 [] .full], .map [], .map []], T ++ [(0, 1)]⟩ (weak_to [] [] (by simp) (by simp) (by simp) (by simp) hDI.ok (by simp)) ?_
      have hW := wsum_bound L hvalL
      have hM := nsum_bound L fun d hd => hn d (hL.perm.mem_iff.1 hd)
      refine aw_then fun K2 hK2 => ?_
      refine docs_loop H T H.length T.length (Nat.le_refl _) (Nat.le_refl _) L H.length (H.length + 1) (H.length + 2) (H.length + 3) T.length _ _ hDI (by omega) (by omega) (by omega) (fun d hd => by have := valid_zs (validD_parts (hvalL d hd)).2.1; omega) (fun d hd => valid_good (hvalL d hd) (hsL d hd)) (Nat.le_refl _) (by omega) (by omega) (by omega) (Nat.le_refl _) _ (fun i h1 h2 h3 e J' U' q1 q2 q3 q4 q5 => ?_) fun hne e J' U' E F r1 r2 r3 => ?_
      · have hF : buildF l = (noSeg, 10) := by
          unfold buildF;rw [if_neg hb0, if_neg (by rw [hva]; simp), if_pos];exact fun hh => adj_dup h1 h2 h3 ((hL.perm.map _).nodup_iff.2 hh)
        have l2 := (List.getElem?_eq_some_iff.1 q3).1;have e2 := at_of q3;show RetQ _ _ _ .ret _;simp [-List.getD_eq_getElem?_getD, q1, q2, e2, l2];rw [hF];exact ⟨q4, q5, frz_none 10⟩
      · have hord := adj_nodup hL.ord hne
        have hnd := lt_nodup hord;have hndl : (l.map (·.id)).Nodup := (hL.perm.map _).nodup_iff.1 hnd;have hLs : L = sortD l := inOrd_unique hL (sortD_inOrd l) hndl;have hF : buildF l = (⟨L.map (·.id), termsF L, colsF L⟩, 0) := by
          unfold buildF;rw [if_neg hb0, if_neg (by rw [hva]; simp), if_neg (fun hh => hh hndl), ← hLs]
        have hel := runL_len r2;have lH := r1.pJ.le;have lT := r1.pU.le;refine hK2 _ (aw_weak ⟨[(2, .ptr H.length 0), (4, .ptr (H.length + 1) 0), (5, .mref (H.length + 2)), (6, .mref (H.length + 3))], J', U'⟩ (weak_to [] [] (by simp) (by simp) (by simpa using lH) (by simpa using lT) r1.ok (by simp at r3; simp [r3])) ?_);rw [hF];exact build_end H T H.length T.length _ _ (Nat.le_refl _) (Nat.le_refl _) L _ _ _ _ _ E F J' U' r1 r2 hord (by omega) (by omega) (Nat.le_refl _) (by omega)
  rcases Classical.em (l = []) with rfl | hne
  · have cs := fun H T => stableD0_ok 123 H T .none;refine aw_reg fun K hK => ?_; simp (disch := omega) [-List.getD_eq_getElem?_getD, dcAV_nil];refine acall_is (cl0 _ _) ?_; simp (disch := omega) [-List.getD_eq_getElem?_getD];refine hK _ ?_; clear hK K;refine aw_reg fun K hK => ?_; simp (disch := omega) [-List.getD_eq_getElem?_getD];refine acall_is (cs _ _) ?_; simp (disch := omega) [-List.getD_eq_getElem?_getD];refine hK _ ?_; clear hK K;refine mid _ [] .nil ?_;simp [dcAV_nil]
  · refine aw_reg fun K hK => ?_; simp (disch := omega) [-List.getD_eq_getElem?_getD];refine ⟨_, cl hne _ _, ?_⟩;rintro r H' T' ⟨rfl, k, rfl, rfl⟩;simp (disch := omega) [-List.getD_eq_getElem?_getD];refine hK _ ?_; clear hK K;have hst := stableD_ok byID_ok l (List.replicate k .top) (H.length + 1) hl (H ++ [.cells [.sl 0 [] .full, .sl 0 [] .full, .sl 0 [] .full], .cells (dcAV l ++ List.replicate k .top)]) T' (by simp) (by simp);refine aw_reg fun K hK => ?_; simp (disch := omega) [-List.getD_eq_getElem?_getD];refine ⟨_, hst, ?_⟩;rintro r H2 T2 ⟨rfl, rfl, L, rfl, hL⟩;simp (disch := omega) [-List.getD_eq_getElem?_getD];refine hK _ ?_; clear hK K;rw [show H ++ [Blk.cells [.sl 0 [] .full, .sl 0 [] .full, .sl 0 [] .full], .cells (dcAV L ++ List.replicate k .top)] = (H ++ [.cells [.sl 0 [] .full, .sl 0 [] .full, .sl 0 [] .full]]) ++ [.cells (dcAV L ++ List.replicate k .top)] by simp];have hlL := hL.len;rw [← List.append_nil T2];refine aw_frz (H := H ++ [.cells [.sl 0 [] .full, .sl 0 [] .full, .sl 0 [] .full]]) (T := T2) (e' := [(0, .sl L.length (dcAV L) .none), (2, .ptr H.length 0)]) ?_ ?_ HO1 ?_ ?_
    · simp
    · simp
    · rw [hlL];exact ⟨Frz.msl0 (rest := List.replicate k .top) (by simp) (by simp) (by simp), Frz.same (by simp), trivial⟩
    · rw [List.append_nil];exact mid [(0, .sl L.length (dcAV L) .none), (2, .ptr H.length 0)] L hL (by simp)
end Go.Proofs.YtoejlmpbebjemaaGreat
