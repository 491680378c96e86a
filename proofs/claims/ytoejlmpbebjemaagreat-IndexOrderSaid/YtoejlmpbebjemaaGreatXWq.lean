/- The words that an index finds (layer 40, plain).
  Conditions: none. -/
import Derived.Test.YtoejlmpbebjemaaGreatXZb
import Derived.Test.YtoejlmpbebjemaaGreatXStr
set_option linter.all false
set_option maxRecDepth 100000
namespace Go.Proofs.YtoejlmpbebjemaaGreat
open Go Go.Am im cL eT
theorem Bq:∀a b:Bs,slt a b=true↔a<b
 |[],[]=>by simp[BJ]
 |x::a,[]=>by simp[BJ]
 |[],y::b=>by simp[DY]
 |x::a,y::b=>by
  rw[xC,List.cons_lt_cons_iff,aic,aht,ahv,ajb,Bq a b]
theorem Aa {a b c:Bs}(h1:slt b a=false)(h2:slt c b=false):slt c a=false:=by
 cases h:slt c a with
 |false=>rfl
 |true=>
  cases h3:slt a b with
  |true=>rw[uC c a b h h3] at h2;cases h2
  |false=>
   have:=lF a b h3 h1;subst this;rw[h] at h2;cases h2
theorem Th {a b c:Bs}(h1:slt a b=true)(h2:slt c b=false):slt a c=true:=by
 cases h:slt a c with
 |true=>rfl
 |false=>
  cases h3:slt c a with
  |true=>rw[uC c a b h3 h1] at h2;cases h2
  |false=>
   have:=lF a c h h3;subst this;rw[h1] at h2;cases h2
theorem np {l : List Bs} (hs : l.Pairwise λx y => slt y x = false) : ∀ m, m <= l.length -> (Lib.compactUpTo l.toArray m).Pairwise (λx y => slt x y = true) /\ (∀ x, x ∈ Lib.compactUpTo l.toArray m ↔ x ∈ l.take m) /\ ∀ x ∈ Lib.compactUpTo l.toArray m, 0 < m -> slt (l.getD (m - 1) []) x = false
  | 0, _ => ⟨.nil, by simp [Lib.compactUpTo], by simp [Lib.compactUpTo]⟩
  | m + 1, h => by
    obtain ⟨h1, h2, h3⟩ := np hs m (by omega)
    have hdf : (default : Bs) = [] := rfl
    have hm : l.toArray[m]! = l.getD m [] := by simp [ahg, hdf]
    have qT : 0 < m -> slt (l.getD m []) (l.getD (m - 1) []) = false := λh0 => by
      have := ahN.1 hs (m - 1) m (by omega) (by omega) (by omega);simpa [ahg, ahi (show m - 1 < l.length by omega), ahi (show m < l.length by omega)] using this
    have hle : ∀ x ∈ Lib.compactUpTo l.toArray m, slt (l.getD m []) x = false := by
      intro x hx;rcases ahR m with h0 | h0
      · subst h0; simp [Lib.compactUpTo] at hx
      · exact Aa (h3 x hx h0) (qT h0)
    have iH : l.take (m + 1) = l.take m ++ [l.getD m []] := aU l m [] (by omega)
    rw [Lib.compactUpTo_succ, iH, hm]
    cases hk : Lib.keeps l.toArray m with
    | true =>
      have nB : m = 0 \/ l.getD m [] ≠ l.getD (m - 1) [] := by
        unfold Lib.keeps at hk;have := ajk hk;rw [hm] at this;simpa [ahg, hdf] using this
      simp only [ai1]
      refine ⟨ai3.2 ⟨h1, by simp, λa ha b hb => ?_⟩, λx => by rw [ahw, ahw, h2 x], λx hx _ => ?_⟩
      · rw [ah0.1 hb]
        rcases nB with h0 | h0
        · subst h0; simp [Lib.compactUpTo] at ha
        · rcases ahR m with h0' | h0'
          · subst h0'; simp [Lib.compactUpTo] at ha
          · have g1 := h3 a ha h0';have g2 := qT h0';have g3 : slt (l.getD (m - 1) []) (l.getD m []) = true := by
              cases h : slt (l.getD (m - 1) []) (l.getD m []) with
              | true => rfl
              | false => exact absurd (lF _ _ g2 h) h0
            cases h : slt a (l.getD m []) with
            | true => rfl
            | false =>
              have := Th g3 h
              rw [this] at g1; cases g1
      · rw [aiP]
        rcases ahw.1 hx with hx | hx
        · exact hle x hx
        · rw [ah0.1 hx]; exact rW _
    | false =>
      have nB : 0 < m /\ l.getD m [] = l.getD (m - 1) [] := by
        unfold Lib.keeps at hk;have := of_decide_eq_false hk;rw [hm] at this;refine ⟨by omega, ?_⟩;have := Classical.not_not.1 λh => this (.inr h);simpa [ahg, hdf] using this
      simp only [aik, ai5, ahH]
      refine ⟨h1, λx => ?_, λx hx _ => by rw [aiP]; exact hle x hx⟩
      rw [h2 x, ahw, ah0]
      refine ⟨.inl, λh => ?_⟩
      rcases h with h | rfl
      · exact h
      · rw [nB.2, <- h2]
        refine (h2 _).2 ?_;have : l.take m = l.take (m - 1) ++ [l.getD (m - 1) []] := by
          have := aU l (m - 1) [] (by omega)
          rwa [show m - 1 + 1 = m by omega] at this
        rw [this]; simp
theorem DU (l:List Bs):(pA l).Pairwise λx y=>slt y x=false:=by
 have h:=ajc (le:=λx y:Bs=>decide (x<=y)) (λa b c h1 h2=>?_) (λa b=>?_) l
 ·refine h.imp λ{a b} h=>?_;have h:=ajk h
  cases hs:slt b a with
  |false=>rfl
  |true=>exact absurd ((Bq b a).1 hs) h
 ·have h1:=ajk h1;have h2:=ajk h2;refine ahm ?_;have g:∀x y:Bs,x<=y↔slt y x=false:=λx y=>by
   show ¬y<x↔_;rw[<-Bq,Bool.not_eq_true]
  rw[g] at h1 h2 ⊢;exact Aa h1 h2
 ·have g:∀x y:Bs,x<=y↔slt y x=false:=λx y=>by
   show ¬y<x↔_;rw[<-Bq,Bool.not_eq_true]
  rw[aic,ahv,ahv,g,g]
  cases hs:slt b a with
  |false=>exact .inl rfl
  |true=>exact .inr (uD b a hs)
def qW (l:List Bs):List Bs:=Lib.compact (pA l)
def Q5 (l:List Bs):(qW l).Pairwise λx y=>slt x y=true:=(np (DU l) _ (ahj _)).1
def E8 (l:List Bs)(x:Bs):x∈qW l↔x∈l:=by
 have:=(np (DU l) _ (ahj _)).2.1 x;rw[ahE] at this;exact this.trans (ajl l _).mem_iff
def P9 {a b:List Bs}(ha:a.Pairwise λx y=>slt x y=true)(hb:b.Pairwise λx y=>slt x y=true)(h:∀x,x∈a↔x∈b):a=b:=by
 have n1:∀{l:List Bs},(l.Pairwise λx y=>slt x y=true)->l.Nodup:=λh=>h.imp λh=>Bp h;refine List.Perm.eq_of_pairwise (le:=λx y=>slt x y=true) ?_ ha hb ((List.perm_ext_iff_of_nodup (n1 ha) (n1 hb)).2 h);intro x y _ _ h1 h2;rw[uD x y h1] at h2;cases h2
def uh (x:List Sd)(f:Int)(p:Bs)(i:Nat):List Bs:=(x.take i).flatMap λs=>gZ (eB s.1) f p
def iZ (x:List Sd)(f:Int)(p:Bs):List Bs:=(qW (uh x f p x.length)).filter λw=>!decide ((eF x (f,w) x.length).length=0)
def AX {x:List Sd}(f:Int)(p:Bs){i:Nat}(h:i<x.length):uh x f p (i+1)=uh x f p i++gZ (eB (x.getD i e0).1) f p:=by
 unfold uh;rw[aU x i e0 h,ahZ];simp
def Ea {d:Dc}{k:Ky}:iX d k≠[]↔k∈dn d:=by
 unfold iX dn;rw[<-qB,ahl,Ne,List.map_eq_nil_iff,aiW]
 constructor
 ·intro h;have:∃a∈eW d.zs,(a.1==k)=true:=Classical.byContradiction λhh=>h λa ha he=>hh ⟨a,ha,he⟩;obtain⟨a,ha,he⟩:=this;exact⟨a,ha,by simpa using he⟩
 ·rintro⟨a,ha,rfl⟩ h;exact h a ha (by simp)
def Tu {L:List Dc}{k:Ky}:(dg L k).length≠0↔∃d∈L,k∈dn d:=by
 rw[Ne,ah3]
 constructor
 ·intro h;obtain⟨p,hp⟩:=aiL _ h;obtain⟨d,hd,_,h2⟩:=fc hp;exact⟨d,hd,Ea.1 h2⟩
 ·rintro⟨d,hd,hk⟩ h;have:(d.id,iX d k)∈dg L k:=by
   unfold dg;refine ah1.2 ⟨d,hd,?_⟩;unfold CM;rw[ahq (Ea.2 hk)];simp
  rw[h] at this;simp at this
def DJ {L:List Dc}(f:Int)(w:Bs):w∈Gw L f↔∃d∈L,(f,w)∈dn d:=by
 rw[Pk,nX];refine exists_congr λd=>and_congr_right λ_=>?_;unfold dn;rw[<-qB,ahl];exact⟨fun⟨q,h⟩=>⟨_,h,rfl⟩,fun⟨⟨k,q⟩,h,e⟩=>⟨q,by rw[<-e];exact h⟩⟩
def zU {x:List Sd}(h:GX x)(f:Int)(p:Bs):iZ x f p=gZ (eB (fC x)) f p:=by
 have hA:=gL h;rw[rU hA.n hA.lt hA.v];unfold iZ;refine P9 ((Q5 _).filter _) ((Pj _ f).filter _) λw=>?_;rw[ahF,ahF,DJ,ajM,aiD,nZ h,<-Ne,Tu,E8];unfold uh;rw[ahE,ah1]
 constructor
 ·rintro⟨⟨q,hq,hw⟩,h2⟩;have hv:=h.vd q hq;rw[rU hv.n hv.lt hv.v] at hw;exact⟨h2,(ahF.1 hw).2⟩
 ·rintro⟨⟨d,hd,hk⟩,hp⟩;obtain⟨q,hq,hd2⟩:=qm.1 hd;have hv:=h.vd q hq;refine⟨⟨q,hq,?_⟩,d,hd,hk⟩;rw[rU hv.n hv.lt hv.v];exact ahF.2 ⟨(DJ f w).2 ⟨d,mf hd2,hk⟩,hp⟩
end Go.Proofs.YtoejlmpbebjemaaGreat
