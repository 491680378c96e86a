/- The words that an index finds (layer 40, plain).
  Conditions: none. -/
import Derived.Test.YtoejlmpbebjemaaGreatXZb
import Derived.Test.YtoejlmpbebjemaaGreatXStr
set_option linter.all false
set_option maxRecDepth 100000
namespace Go.Proofs.YtoejlmpbebjemaaGreat
open Go Go.Am ie cN eN
theorem BK:∀a b:Bs,slt a b=true↔a<b
 |[],[]=>by simp[B2]
 |x::a,[]=>by simp[B2]
 |[],y::b=>by simp[Eg]
 |x::a,y::b=>by
  rw[xM,List.cons_lt_cons_iff,aiq,ahG,ahH,ajl,BK a b]
theorem AA {a b c:Bs}(h1:slt b a=false)(h2:slt c b=false):slt c a=false:=by
 cases h:slt c a with
 |false=>rfl
 |true=>
  cases h3:slt a b with
  |true=>rw[uM c a b h h3] at h2;cases h2
  |false=>
   have:=l0 a b h3 h1;subst this;rw[h] at h2;cases h2
theorem S2 {a b c:Bs}(h1:slt a b=true)(h2:slt c b=false):slt a c=true:=by
 cases h:slt a c with
 |true=>rfl
 |false=>
  cases h3:slt c a with
  |true=>rw[uM c a b h3 h1] at h2;cases h2
  |false=>
   have:=l0 a c h h3;subst this;rw[h1] at h2;cases h2
theorem nO {l : List Bs} (hs : l.Pairwise λx y => slt y x = false) : ∀ m, m <= l.length -> (Lib.compactUpTo l.toArray m).Pairwise (λx y => slt x y = true) /\ (∀ x, x ∈ Lib.compactUpTo l.toArray m ↔ x ∈ l.take m) /\ ∀ x ∈ Lib.compactUpTo l.toArray m, 0 < m -> slt (l.getD (m - 1) []) x = false
  | 0, _ => ⟨.nil, by simp [Lib.compactUpTo], by simp [Lib.compactUpTo]⟩
  | m + 1, h => by
    obtain ⟨h1, h2, h3⟩ := nO hs m (by omega)
    have hdf : (default : Bs) = [] := rfl
    have hm : l.toArray[m]! = l.getD m [] := by simp [ahs, hdf]
    have rC : 0 < m -> slt (l.getD m []) (l.getD (m - 1) []) = false := λh0 => by
      have := ah6.1 hs (m - 1) m (by omega) (by omega) (by omega);simpa [ahs, ahu (show m - 1 < l.length by omega), ahu (show m < l.length by omega)] using this
    have hle : ∀ x ∈ Lib.compactUpTo l.toArray m, slt (l.getD m []) x = false := by
      intro x hx;rcases ah0 m with h0 | h0
      · subst h0; simp [Lib.compactUpTo] at hx
      · exact AA (h3 x hx h0) (rC h0)
    have gV : l.take (m + 1) = l.take m ++ [l.getD m []] := aX l m [] (by omega)
    rw [Lib.compactUpTo_succ, gV, hm]
    cases hk : Lib.keeps l.toArray m with
    | true =>
      have nV : m = 0 \/ l.getD m [] ≠ l.getD (m - 1) [] := by
        unfold Lib.keeps at hk;have := ajy hk;rw [hm] at this;simpa [ahs, hdf] using this
      simp only [ajc]
      refine ⟨ajg.2 ⟨h1, by simp, λa ha b hb => ?_⟩, λx => by rw [ahI, ahI, h2 x], λx hx _ => ?_⟩
      · rw [aic.1 hb]
        rcases nV with h0 | h0
        · subst h0; simp [Lib.compactUpTo] at ha
        · rcases ah0 m with UD | UD
          · subst UD; simp [Lib.compactUpTo] at ha
          · have g1 := h3 a ha UD;have g2 := rC UD;have g3 : slt (l.getD (m - 1) []) (l.getD m []) = true := by
              cases h : slt (l.getD (m - 1) []) (l.getD m []) with
              | true => rfl
              | false => exact absurd (l0 _ _ g2 h) h0
            cases h : slt a (l.getD m []) with
            | true => rfl
            | false =>
              have := S2 g3 h
              rw [this] at g1; cases g1
      · rw [ai1]
        rcases ahI.1 hx with hx | hx
        · exact hle x hx
        · rw [aic.1 hx]; exact sA _
    | false =>
      have nV : 0 < m /\ l.getD m [] = l.getD (m - 1) [] := by
        unfold Lib.keeps at hk;have := of_decide_eq_false hk;rw [hm] at this;refine ⟨by omega, ?_⟩;have := Classical.not_not.1 λh => this (.inr h);simpa [ahs, hdf] using this
      simp only [aiu, aje, ahS]
      refine ⟨h1, λx => ?_, λx hx _ => by rw [ai1]; exact hle x hx⟩
      rw [h2 x, ahI, aic]
      refine ⟨.inl, λh => ?_⟩
      rcases h with h | rfl
      · exact h
      · rw [nV.2, <- h2]
        refine (h2 _).2 ?_;have : l.take m = l.take (m - 1) ++ [l.getD (m - 1) []] := by
          have := aX l (m - 1) [] (by omega)
          rwa [show m - 1 + 1 = m by omega] at this
        rw [this]; simp
theorem Ec (l:List Bs):(pS l).Pairwise λx y=>slt y x=false:=by
 have h:=ajp (le:=λx y:Bs=>decide (x<=y)) (λa b c h1 h2=>?_) (λa b=>?_) l
 ·refine h.imp λ{a b} h=>?_;have h:=ajy h
  cases hs:slt b a with
  |false=>rfl
  |true=>exact absurd ((BK b a).1 hs) h
 ·have h1:=ajy h1;have h2:=ajy h2;refine ahx ?_;have g:∀x y:Bs,x<=y↔slt y x=false:=λx y=>by
   show ¬y<x↔_;rw[<-BK,Bool.not_eq_true]
  rw[g] at h1 h2 ⊢;exact AA h1 h2
 ·have g:∀x y:Bs,x<=y↔slt y x=false:=λx y=>by
   show ¬y<x↔_;rw[<-BK,Bool.not_eq_true]
  rw[aiq,ahH,ahH,g,g]
  cases hs:slt b a with
  |false=>exact .inl rfl
  |true=>exact .inr (uN b a hs)
def rG (l:List Bs):List Bs:=Lib.compact (pS l)
def QT (l:List Bs):(rG l).Pairwise λx y=>slt x y=true:=(nO (Ec l) _ (ahv _)).1
def Fl (l:List Bs)(x:Bs):x∈rG l↔x∈l:=by
 have:=(nO (Ec l) _ (ahv _)).2.1 x;rw[ahO] at this;exact this.trans (ajz l _).mem_iff
def PV {a b:List Bs}(ha:a.Pairwise λx y=>slt x y=true)(hb:b.Pairwise λx y=>slt x y=true)(h:∀x,x∈a↔x∈b):a=b:=by
 have n1:∀{l:List Bs},(l.Pairwise λx y=>slt x y=true)->l.Nodup:=λh=>h.imp λh=>BJ h;refine List.Perm.eq_of_pairwise (le:=λx y=>slt x y=true) ?_ ha hb ((List.perm_ext_iff_of_nodup (n1 ha) (n1 hb)).2 h);intro x y _ _ h1 h2;rw[uN x y h1] at h2;cases h2
def uA (x:List Sd)(f:Int)(p:Bs)(i:Nat):List Bs:=(x.take i).flatMap λs=>fk (er s.1) f p
def kb (x:List Sd)(f:Int)(p:Bs):List Bs:=(rG (uA x f p x.length)).filter λw=>!decide ((fj x (f,w) x.length).length=0)
def Be {x:List Sd}(f:Int)(p:Bs){i:Nat}(h:i<x.length):uA x f p (i+1)=uA x f p i++fk (er (x.getD i e0).1) f p:=by
 unfold uA;rw[aX x i e0 h,aid];simp
def Er {d:Dc}{k:Ky}:ji d k≠[]↔k∈dy d:=by
 unfold ji dy;rw[<-qY,ahz,Ne,List.map_eq_nil_iff,ai9]
 constructor
 ·intro h;have:∃a∈eW d.zs,(a.1==k)=true:=Classical.byContradiction λhh=>h λa ha he=>hh ⟨a,ha,he⟩;obtain⟨a,ha,he⟩:=this;exact⟨a,ha,by simpa using he⟩
 ·rintro⟨a,ha,rfl⟩ h;exact h a ha zS
def Tf {L:List Dc}{k:Ky}:(dq L k).length≠0↔∃d∈L,k∈dy d:=by
 rw[Ne,ah9]
 constructor
 ·intro h;obtain⟨p,hp⟩:=aiX _ h;obtain⟨d,hd,_,h2⟩:=eZ hp;exact⟨d,hd,Er.1 h2⟩
 ·rintro⟨d,hd,hk⟩ h;have:(d.id,ji d k)∈dq L k:=by
   unfold dq;refine ah7.2 ⟨d,hd,?_⟩;unfold C2;rw[ahC (Er.2 hk)];simp
  rw[h] at this;simp at this
def DZ {L:List Dc}(f:Int)(w:Bs):w∈GG L f↔∃d∈L,(f,w)∈dy d:=by
 rw[O8,ow];refine exists_congr λd=>and_congr_right λ_=>?_;unfold dy;rw[<-qY,ahz];exact⟨fun⟨q,h⟩=>⟨_,h,rfl⟩,fun⟨⟨k,q⟩,h,e⟩=>⟨q,by rw[<-e];exact h⟩⟩
def KI {x:List Sd}(h:GX x)(f:Int)(p:Bs):kb x f p=fk (er (fM x)) f p:=by
 have hA:=gT h;rw[ss hA.n hA.lt hA.v];unfold kb;refine PV ((QT _).filter _) ((O7 _ f).filter _) λw=>?_;rw[ahU,ahU,DZ,ajZ,aiP,u5 h,<-Ne,Tf,Fl];unfold uA;rw[ahO,ah7]
 constructor
 ·rintro⟨⟨q,hq,hw⟩,h2⟩;have hv:=h.vd q hq;rw[ss hv.n hv.lt hv.v] at hw;exact⟨h2,(ahU.1 hw).2⟩
 ·rintro⟨⟨d,hd,hk⟩,hp⟩;obtain⟨q,hq,ug⟩:=qK.1 hd;have hv:=h.vd q hq;refine⟨⟨q,hq,?_⟩,d,hd,hk⟩;rw[ss hv.n hv.lt hv.v];exact ahU.2 ⟨(DZ f w).2 ⟨d,mE ug,hk⟩,hp⟩
end Go.Proofs.YtoejlmpbebjemaaGreat
