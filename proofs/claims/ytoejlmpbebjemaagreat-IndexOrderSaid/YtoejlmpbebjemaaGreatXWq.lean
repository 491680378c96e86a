/- The words that an index finds (layer 40, plain).
  Conditions: none. -/
import Derived.Test.YtoejlmpbebjemaaGreatXZb
import Derived.Test.YtoejlmpbebjemaaGreatXStr
set_option linter.all false
set_option maxRecDepth 100000
namespace Go.Proofs.YtoejlmpbebjemaaGreat
open Go Go.Am ia cO eN
theorem Ba:∀a b:Bs,slt a b=true↔a<b
 |[],[]=>by simp[Bo]
 |x::a,[]=>by simp[Bo]
 |[],y::b=>by simp[Du]
 |x::a,y::b=>by
  rw[xi,List.cons_lt_cons_iff,ahx,agO,agQ,aiu,Ba a b]
theorem zU {a b c:Bs}(h1:slt b a=false)(h2:slt c b=false):slt c a=false:=by
 cases h:slt c a with
 |false=>rfl
 |true=>
  cases h3:slt a b with
  |true=>rw[uo c a b h h3] at h2;cases h2
  |false=>
   have:=lu a b h3 h1;subst this;rw[h] at h2;cases h2
theorem Sa {a b c:Bs}(h1:slt a b=true)(h2:slt c b=false):slt a c=true:=by
 cases h:slt a c with
 |true=>rfl
 |false=>
  cases h3:slt c a with
  |true=>rw[uo c a b h3 h1] at h2;cases h2
  |false=>
   have:=lu a c h h3;subst this;rw[h1] at h2;cases h2
theorem nk {l : List Bs} (hs : l.Pairwise λx y => slt y x = false) : ∀ m, m <= l.length -> (Lib.compactUpTo l.toArray m).Pairwise (λx y => slt x y = true) /\ (∀ x, x ∈ Lib.compactUpTo l.toArray m ↔ x ∈ l.take m) /\ ∀ x ∈ Lib.compactUpTo l.toArray m, 0 < m -> slt (l.getD (m - 1) []) x = false
  | 0, _ => ⟨.nil, by simp [Lib.compactUpTo], by simp [Lib.compactUpTo]⟩
  | m + 1, h => by
    obtain ⟨h1, h2, h3⟩ := nk hs m (by omega)
    have hdf : (default : Bs) = [] := rfl
    have hm : l.toArray[m]! = l.getD m [] := by simp [agB, hdf]
    have qP : 0 < m -> slt (l.getD m []) (l.getD (m - 1) []) = false := λh0 => by
      have := ag8.1 hs (m - 1) m (by omega) (by omega) (by omega);simpa [agB, agD (show m - 1 < l.length by omega), agD (show m < l.length by omega)] using this
    have hle : ∀ x ∈ Lib.compactUpTo l.toArray m, slt (l.getD m []) x = false := by
      intro x hx;rcases ahc m with h0 | h0
      · subst h0; simp [Lib.compactUpTo] at hx
      · exact zU (h3 x hx h0) (qP h0)
    have iz : l.take (m + 1) = l.take m ++ [l.getD m []] := aV l m [] (by omega)
    rw [Lib.compactUpTo_succ, iz, hm]
    cases hk : Lib.keeps l.toArray m with
    | true =>
      have nw : m = 0 \/ l.getD m [] ≠ l.getD (m - 1) [] := by
        unfold Lib.keeps at hk;have := aiF hk;rw [hm] at this;simpa [agB, hdf] using this
      simp only [ain]
      refine ⟨aio.2 ⟨h1, by simp, λa ha b hb => ?_⟩, λx => by rw [agR, agR, h2 x], λx hx _ => ?_⟩
      · rw [ahl.1 hb]
        rcases nw with h0 | h0
        · subst h0; simp [Lib.compactUpTo] at ha
        · rcases ahc m with TW | TW
          · subst TW; simp [Lib.compactUpTo] at ha
          · have g1 := h3 a ha TW;have g2 := qP TW;have g3 : slt (l.getD (m - 1) []) (l.getD m []) = true := by
              cases h : slt (l.getD (m - 1) []) (l.getD m []) with
              | true => rfl
              | false => exact absurd (lu _ _ g2 h) h0
            cases h : slt a (l.getD m []) with
            | true => rfl
            | false =>
              have := Sa g3 h
              rw [this] at g1; cases g1
      · rw [ah9]
        rcases agR.1 hx with hx | hx
        · exact hle x hx
        · rw [ahl.1 hx]; exact rU _
    | false =>
      have nw : 0 < m /\ l.getD m [] = l.getD (m - 1) [] := by
        unfold Lib.keeps at hk;have := of_decide_eq_false hk;rw [hm] at this;refine ⟨by omega, ?_⟩;have := Classical.not_not.1 λh => this (.inr h);simpa [agB, hdf] using this
      simp only [ahE, aiq, ag2]
      refine ⟨h1, λx => ?_, λx hx _ => by rw [ah9]; exact hle x hx⟩
      rw [h2 x, agR, ahl]
      refine ⟨.inl, λh => ?_⟩
      rcases h with h | rfl
      · exact h
      · rw [nw.2, <- h2]
        refine (h2 _).2 ?_;have : l.take m = l.take (m - 1) ++ [l.getD (m - 1) []] := by
          have := aV l (m - 1) [] (by omega)
          rwa [show m - 1 + 1 = m by omega] at this
        rw [this]; simp
theorem Dq (l:List Bs):(pq l).Pairwise λx y=>slt y x=false:=by
 have h:=aix (le:=λx y:Bs=>decide (x<=y)) (λa b c h1 h2=>?_) (λa b=>?_) l
 ·refine h.imp λ{a b} h=>?_;have h:=aiF h
  cases hs:slt b a with
  |false=>rfl
  |true=>exact absurd ((Ba b a).1 hs) h
 ·have h1:=aiF h1;have h2:=aiF h2;refine agH ?_;have g:∀x y:Bs,x<=y↔slt y x=false:=λx y=>by
   show ¬y<x↔_;rw[<-Ba,Bool.not_eq_true]
  rw[g] at h1 h2 ⊢;exact zU h1 h2
 ·have g:∀x y:Bs,x<=y↔slt y x=false:=λx y=>by
   show ¬y<x↔_;rw[<-Ba,Bool.not_eq_true]
  rw[ahx,agQ,agQ,g,g]
  cases hs:slt b a with
  |false=>exact .inl rfl
  |true=>exact .inr (uq b a hs)
def qS (l:List Bs):List Bs:=Lib.compact (pq l)
def Qd (l:List Bs):(qS l).Pairwise λx y=>slt x y=true:=(nk (Dq l) _ (agE _)).1
def ED (l:List Bs)(x:Bs):x∈qS l↔x∈l:=by
 have:=(nk (Dq l) _ (agE _)).2.1 x;rw[agZ] at this;exact this.trans (aiG l _).mem_iff
def Pd {a b:List Bs}(ha:a.Pairwise λx y=>slt x y=true)(hb:b.Pairwise λx y=>slt x y=true)(h:∀x,x∈a↔x∈b):a=b:=by
 have n1:∀{l:List Bs},(l.Pairwise λx y=>slt x y=true)->l.Nodup:=λh=>h.imp λh=>A9 h;refine List.Perm.eq_of_pairwise (le:=λx y=>slt x y=true) ?_ ha hb ((List.perm_ext_iff_of_nodup (n1 ha) (n1 hb)).2 h);intro x y _ _ h1 h2;rw[uq x y h1] at h2;cases h2
def tW (x:List Sd)(f:Int)(p:Bs)(i:Nat):List Bs:=(x.take i).flatMap λs=>gS (eu s.1) f p
def iT (x:List Sd)(f:Int)(p:Bs):List Bs:=(qS (tW x f p x.length)).filter λw=>!decide ((eC x (f,w) x.length).length=0)
def AD {x:List Sd}(f:Int)(p:Bs){i:Nat}(h:i<x.length):tW x f p (i+1)=tW x f p i++gS (eu (x.getD i e0).1) f p:=by
 unfold tW;rw[aV x i e0 h,ahk];simp
def DE {d:Dc}{k:Ky}:iR d k≠[]↔k∈dm d:=by
 unfold iR dm;rw[<-qx,agG,Ne,List.map_eq_nil_iff,aif]
 constructor
 ·intro h;have:∃a∈eP d.zs,(a.1==k)=true:=Classical.byContradiction λhh=>h λa ha he=>hh ⟨a,ha,he⟩;obtain⟨a,ha,he⟩:=this;exact⟨a,ha,by simpa using he⟩
 ·rintro⟨a,ha,rfl⟩ h;exact h a ha (by simp)
def Sn {L:List Dc}{k:Ky}:(dg L k).length≠0↔∃d∈L,k∈dm d:=by
 rw[Ne,aho]
 constructor
 ·intro h;obtain⟨p,hp⟩:=ah4 _ h;obtain⟨d,hd,_,h2⟩:=eR hp;exact⟨d,hd,DE.1 h2⟩
 ·rintro⟨d,hd,hk⟩ h;have:(d.id,iR d k)∈dg L k:=by
   unfold dg;refine ahm.2 ⟨d,hd,?_⟩;unfold Co;rw[agL (DE.2 hk)];simp
  rw[h] at this;simp at this
def Dg {L:List Dc}(f:Int)(w:Bs):w∈F6 L f↔∃d∈L,(f,w)∈dm d:=by
 rw[Ou,nU];refine exists_congr λd=>and_congr_right λ_=>?_;unfold dm;rw[<-qx,agG];exact⟨fun⟨q,h⟩=>⟨_,h,rfl⟩,fun⟨⟨k,q⟩,h,e⟩=>⟨q,by rw[<-e];exact h⟩⟩
def zJ {x:List Sd}(h:GX x)(f:Int)(p:Bs):iT x f p=gS (eu (fl x)) f p:=by
 have hA:=gF h;rw[rQ hA.n hA.lt hA.v];unfold iT;refine Pd ((Qd _).filter _) ((Ot _ f).filter _) λw=>?_;rw[ag0,ag0,Dg,ai7,ahX,nV h,<-Ne,Sn,ED];unfold tW;rw[agZ,ahm]
 constructor
 ·rintro⟨⟨q,hq,hw⟩,h2⟩;have hv:=h.vd q hq;rw[rQ hv.n hv.lt hv.v] at hw;exact⟨h2,(ag0.1 hw).2⟩
 ·rintro⟨⟨d,hd,hk⟩,hp⟩;obtain⟨q,hq,tM⟩:=qi.1 hd;have hv:=h.vd q hq;refine⟨⟨q,hq,?_⟩,d,hd,hk⟩;rw[rQ hv.n hv.lt hv.v];exact ag0.2 ⟨(Dg f w).2 ⟨d,lY tM,hk⟩,hp⟩
end Go.Proofs.YtoejlmpbebjemaaGreat
