/- Small functions of the index (layer 40): dead, live, or, Docs. Clones of lists of segments and of lists of lists; segments replaced (layer 40). One step of tidying an index (layer 40, plain). index.kill (layer 40). index.Valid (layer 40). index.Docs, Find, Put and Drop (layer 40).
  Conditions: as the theorems say. -/
import Derived.Test.YtoejlmpbebjemaaGreatXZa
import Derived.Test.YtoejlmpbebjemaaGreatGZy
import Derived.Test.YtoejlmpbebjemaaGreatAmC
set_option linter.all false
set_option maxRecDepth 100000
set_option maxHeartbeats 16000000
open List (getD_eq_getElem?_getD)
namespace Go.Proofs.YtoejlmpbebjemaaGreat
open Go.Proofs.Tryz(prog)
open Go Go.Am im cL eT
def EE {α:Type}{l:List α}{i:Nat}{d:α}(h:l.length<=i):l.getD i d=d:=by rw[ahg,aiI h];rfl
attribute [-simp] getD_eq_getElem?_getD in
def Ca (S:List Sg)(D:List (List Int))(i:Nat)(hi:i<=1000)(hD:D.length<=400)(H:List az)(T:au) :
  ar prog 90 [Bk S D,.int .i64 (i:Nat)] H T (Is (CK (D.getD i [])) H T):=by
 refine ar.bV ?_ (by simp);refine ah 5 [] Tryz.ntmps90 Tryz.func90 rfl (λ_ _=>Tryz.call90 _ _) (by simp) (λHO=>?_);apply ae;intro K Z;simp(disch:=omega);apply Z;refine af λK1 aO=>?_
 by_cases hk:i<D.length
 ·have a1:=oH D i hk;have hn:¬D.length<=i:=by omega
  have b1:decide ((D.length:Int)<=(i:Int))=false:=ahn (by omega);refine ae λK hK=>?_;simp(disch:=omega)[hn,b1];apply hK;apply aD rfl;apply aq;simp(disch:=omega) ;apply aO;clear aO;refine ae λK hK=>?_;simp(disch:=omega)[a1,hk,bC];apply hK;apply ay;simp(disch:=omega) 
 ·have hn:D.length<=i:=by omega
  have b1:decide ((D.length:Int)<=(i:Int))=true:=ahm (by omega);have e:D.getD i []=[]:=EE hn;rw[e];refine ae λK hK=>?_;simp(disch:=omega)[hn,b1];apply hK;apply aG rfl;apply ae;intro K Z;simp(disch:=omega);apply Z;apply ay;simp(disch:=omega) 
attribute [-simp] getD_eq_getElem?_getD in
def wz (S:List Sg)(D:List (List Int))(i:Nat)(hi:i<S.length)(hz:Y5 S D)(H:List az)(T:au) :
  ar prog 63 [Bk S D,.int .i64 (i:Nat)] H T (Is (CK (Nh (S.getD i bR) (D.getD i []))) H T):=by
 refine ar.bV ?_ (by simp);have hn:=hz.n;have cd:=λH T=>Ca S D i (by omega) hz.d H T;have zz:(D.getD i []).length<=1000:=by
  by_cases h:i<D.length
  ·exact hz.l _ (aS D i [] h)
  ·rw[EE (by omega)];simp
 have cw:=λH T=>oK (S.getD i bR).aA (D.getD i []) (hz.s _ (aS S i bR hi)).d zz H T .none .none;obtain⟨a1,a2,a3⟩:=BH S i hi;unfold Nh;generalize D.getD i []=d at *;generalize S.getD i bR=s at *;refine ah 5 [] Tryz.ntmps63 Tryz.func63 rfl (λ_ _=>Tryz.call63 _ _) (by simp) (λHO=>?_);apply ae;intro K Z;simp(disch:=omega);apply Z;refine aJ [] [0,0,0,0,0,0,0,0,0,0,0] [] aw (by kernel_rfl) (by kernel_rfl) λK hK=>?_;simp(disch:=omega)[a1,hi,dF];refine aC (cd _ _) rfl ?_;simp(disch:=omega) ;refine aC (cw _ _) rfl ?_;simp(disch:=omega) ;apply hK;apply ay;simp(disch:=omega) 
def F9 (l:List (List Int)):List Int:=l.foldl Gg []
attribute [-simp] getD_eq_getElem?_getD in
def OP (l:List (List Int))(hl:l.length<=400)(hd:∀d∈l,d.length<=1000)(hs:∀k,k<=l.length->(F9 (l.take k)).length<=1000)(H:List az)(T:au)(tg:Tag) :
  ar prog 78 [.sl l.length (fT l) tg] H T (Is (CK (F9 l)) H T):=by
 refine ar.cg ?_;refine ar.bV ?_ (by simp);refine ah 9 [] Tryz.ntmps78 Tryz.func78 rfl (λ_ _=>Tryz.call78 _ _) (by simp) (λHO=>?_);apply ae;intro K Z;simp(disch:=omega);apply Z;apply ae;intro K Z;simp(disch:=omega);apply Z;refine af λK1 aO=>?_;apply ae;intro K Z;simp(disch:=omega);apply Z;apply aj;refine aI (X:=Nat) (λk=>⟨[(3,CK (F9 (l.take k))),(6,.sl l.length (fT l) .none),(7,.int .i64 (l.length:Nat)),(8,.int .i64 (k:Nat))],H,T⟩) (λk=>k<=l.length) (λk=>l.length-k) 0 ?_ ?_ ?_
 ·exact ahu _
 ·refine ag [] [] ?_ ?_ ?_ ?_ HO ?_
  all_goals simp[F9]
 ·intro k gV;apply ae;intro K Z;simp(disch:=omega);apply Z;refine af λK2 bc=>?_;refine aT rfl (λhk=>?_) (λhk=>?_)
  ·simp  at hk;have a1:=oH l k hk;have cr:=λH T=>Ok (F9 (l.take k)) (l.getD k []) (hs k gV) (hd _ (aS l k [] hk)) H T .none .none;have e:F9 (l.take (k+1))=Gg (F9 (l.take k)) (l.getD k []):=by
    unfold F9;rw[aU l k [] hk,ai0];rfl
   rw[show comb (λ_ _=>true) (F9 (l.take k)) (l.getD k [])=F9 (l.take (k+1)) from e.symm] at cr;clear e;generalize F9 (l.take k)=x at *;generalize hy:F9 (l.take (k+1))=y at *;generalize l.getD k []=d at *;apply aq;apply bc;clear bc;refine af λK3 bD=>?_;apply aj;refine ae λK hK=>?_;simp(disch:=omega)[a1,hk,bC];apply hK;refine aB λK hK=>?_;simp(disch:=omega) ;refine ak (cr _ _) ?_;simp(disch:=omega) ;apply hK;apply bD;clear bD;refine aB λK hK=>?_;simp(disch:=omega) ;apply hK;refine⟨k+1,by show k+1<=_;omega,by show l.length-(k+1)<l.length-k;omega,?_⟩;refine ag [] [] ?_ ?_ ?_ ?_ HO ?_
   all_goals simp[hy]
  ·simp  at hk;have:k=l.length:=by omega
   subst this;rw[ahE];apply aF;simp(disch:=omega) ;apply aO;clear aO;apply ae;intro K Z;simp(disch:=omega);apply Z;apply ay;simp(disch:=omega) 
attribute [-simp] getD_eq_getElem?_getD in
theorem Iz (l:List Sg)(hl:l.length<=1000)(H:List az)(T:au)(tg:Tag) :
  ar prog 131 [.sl l.length (fK l) tg] H T (Is (.sl l.length (fK l) (.own T.length)) H (T++[(l.length*3,3)])):=by
 refine ar.cg ?_
 cases l with
 |nil=>
  show ar prog _ [.sl 0 [] .none] H T (Is (.sl 0 [] (.own T.length)) H (T++[(0,3)]));refine ah 3 [] Tryz.ntmps131 Tryz.func131 rfl (λ_ _=>Tryz.call131 _ _) (by simp) (λHO=>?_);apply ae;intro K Z;simp(disch:=omega);apply Z;refine af λK1 aO=>?_;refine ae λK hK=>?_;simp(disch:=omega) 
  constructor
  ·apply hK;apply aD rfl;apply aq;simp(disch:=omega) ;apply aO;clear aO;refine ae λK hK=>?_;simp(disch:=omega)[dm];apply hK;apply ay;simp(disch:=omega) ;exact⟨rfl,rfl,rfl⟩
  ·apply hK;apply aG rfl;apply ae;intro K Z;simp(disch:=omega);apply Z;refine m9 2 0 3 [] (by omega) (by simp) ?_;apply ay;simp(disch:=omega) ;exact⟨rfl,rfl,rfl⟩
 |cons x r=>
  have h0:x::r≠[]:=by simp
  generalize x::r=l at *;have eV:0<l.length:=ait.2 h0;have hlen:=dF l;have hd:¬fK l=[]:=λe=>by rw[e] at hlen;simp at hlen;omega
  refine ah 3 [] Tryz.ntmps131 Tryz.func131 rfl (λ_ _=>Tryz.call131 _ _) (by simp) (λHO=>?_);apply ae;intro K Z;simp(disch:=omega);apply Z;refine af λK1 aO=>?_;refine ae λK hK=>?_;simp(disch:=omega) ;refine⟨?_,λhe=>absurd he (by first|exact h0|exact hd)⟩;apply hK;apply aD rfl;apply aq;simp(disch:=omega) ;apply aO;clear aO;refine ae λK hK=>?_;simp(disch:=omega)[dm,dF,eV];apply hK;apply ay;simp(disch:=omega) ;exact⟨rfl,rfl,rfl⟩
attribute [-simp] getD_eq_getElem?_getD in
theorem IB (D:List (List Int))(hl:D.length<=1000)(H:List az)(T:au)(tg:Tag) :
  ar prog 121 [.sl D.length (fT D) tg] H T (Is (.sl D.length (fT D) (.own T.length)) H (T++[(D.length,1)])):=by
 refine ar.cg ?_
 cases D with
 |nil=>
  show ar prog _ [.sl 0 [] .none] H T (Is (.sl 0 [] (.own T.length)) H (T++[(0,1)]));refine ah 3 [] Tryz.ntmps121 Tryz.func121 rfl (λ_ _=>Tryz.call121 _ _) (by simp) (λHO=>?_);apply ae;intro K Z;simp(disch:=omega);apply Z;refine af λK1 aO=>?_;refine ae λK hK=>?_;simp(disch:=omega) 
  constructor
  ·apply hK;apply aD rfl;apply aq;simp(disch:=omega) ;apply aO;clear aO;refine ae λK hK=>?_;simp(disch:=omega)[dm];apply hK;apply ay;simp(disch:=omega) ;exact⟨rfl,rfl,rfl⟩
  ·apply hK;apply aG rfl;apply ae;intro K Z;simp(disch:=omega);apply Z;refine m9 2 0 1 [] (by omega) (by simp) ?_;apply ay;simp(disch:=omega) ;exact⟨rfl,rfl,rfl⟩
 |cons x r=>
  have h0:x::r≠[]:=by simp
  generalize x::r=D at *;have eV:0<D.length:=ait.2 h0;have hlen:=bC D;have hd:¬fT D=[]:=λe=>by rw[e] at hlen;simp at hlen;omega
  refine ah 3 [] Tryz.ntmps121 Tryz.func121 rfl (λ_ _=>Tryz.call121 _ _) (by simp) (λHO=>?_);apply ae;intro K Z;simp(disch:=omega);apply Z;refine af λK1 aO=>?_;refine ae λK hK=>?_;simp(disch:=omega) ;refine⟨?_,λhe=>absurd he (by first|exact h0|exact hd)⟩;apply hK;apply aD rfl;apply aq;simp(disch:=omega) ;apply aO;clear aO;refine ae λK hK=>?_;simp(disch:=omega)[dm,bC,eV];apply hK;apply ay;simp(disch:=omega) ;exact⟨rfl,rfl,rfl⟩
attribute [-simp] getD_eq_getElem?_getD in
def IA (D:List (List Int))(h0:D≠[])(hl:D.length<=1000)(H:List az)(T:au)(tg:Tag) :
  ar prog 121 [.sl D.length (fT D) tg] H T (λr H' T'=>T'=T/\∃k,H'=H++[.cells (fT D++List.replicate k .top)]/\r=.cK H.length 0 D.length):=by
 refine ar.cg ?_;have eV:0<D.length:=ait.2 h0;have hne:¬D=[]:=h0;have hlen:=bC D;have hd:¬fT D=[]:=λe=>by rw[e] at hlen;simp at hlen;omega
 refine ah 3 [7] Tryz.ntmps121 Tryz.func121 rfl (λ_ _=>Tryz.call121 _ _) (by simp) (λHO=>?_);apply ae;intro K Z;simp(disch:=omega);apply Z;refine af λK1 aO=>?_;refine ae λK hK=>?_;simp(disch:=omega) ;refine⟨?_,λhe=>absurd he (by first|exact hne|exact hd)⟩;apply hK;apply aD rfl;apply aq;simp(disch:=omega) ;apply aO;clear aO;refine ae λK hK=>?_;simp(disch:=omega)[dm,bC,eV];intro k;apply hK;apply ay;simp(disch:=omega) 
def BZ {n0 t0:Nat}{H:List az}{cs cs':List AV}(h:cs'=cs.map cG)(hb:aK n0 t0 cs'):∀(j:Nat)(hj:j<cs'.length),gj n0 t0 H (cs.getD j .top) (cs'[j]'hj):=λj hj=>by
 subst h;have hj':j<cs.length:=by simpa using hj
 refine .keep (.inr ?_) (hb _ (ahP hj));rw[aia,ahg,ahi hj'];rfl
def xB (l:List Sg):(fK l).map cG=fK l:=by
 unfold fK;rw[List.map_flatMap]
 congr 1
def ER (l:List (List Int)):(fT l).map cG=fT l:=by
 unfold fT;rw[ain]
 congr 1
def one (s:Sg):List Sg:=if s.aA=[] then [] else [s]
def zK (s:Sg):List (List Int):=if s.aA=[] then [] else [[]]
def Kq (S:List Sg)(i j:Nat)(s:Sg):List Sg:=S.take i++one s++S.drop j
def Kr (D:List (List Int))(i j:Nat)(s:Sg):List (List Int):=D.take i++zK s++D.drop j
theorem vy (S : List Sg) (D : List (List Int)) (i j : Nat) (s : Sg) (hz : Y5 S D) (YG : S.length = D.length) (hij : i <= j) (hj : j <= S.length) (hsd : s.aA.length <= 1000) (H : List az) (T : au) :
    ar prog 70 [Bk S D, .int .i64 (i : Nat), .int .i64 (j : Nat), jS s] H T (Is (Bk (Kq S i j s) (Kr D i j s)) H T) := by
  refine ar.pn ?_;show ar prog _ _ H T (BQ H T _);have hn := hz.n;have VU : i <= S.length := by omega
  have va : i <= D.length := by omega
  have hjD : j <= D.length := by omega
  have hti : (S.take i).length = i := by rw [ahJ]; omega
  have NF : (D.take i).length = i := by rw [ahJ]; omega
  have hdS : (S.drop j).length = S.length - j := ah4;have hdD : (D.drop j).length = D.length - j := ah4;refine ah 10 [] Tryz.ntmps70 Tryz.func70 rfl (λ_ _ => Tryz.call70 _ _) (by simp) (λHO => ?_);refine ae λK hK => ?_; simp (disch := omega) [-getD_eq_getElem?_getD]; refine hK _ ?_; clear hK K;refine Xj ⟨[(2, .int .i64 (j : Nat)), (4, .ptr H.length 0), (7, .ptr (H.length + 1) 0), (8, .ptr (H.length + 2) 0), (9, .ptr (H.length + 3) 0)],
    H ++ [.cells (iE S D), .cells (dC s), .cells [.sl 0 [] .full, .sl 0 [] .full], .cells [.sl i (fK (S.take i)) (.own T.length), .sl i (fT (D.take i)) (.own (T.length + 1))]], T ++ [(i * 3, 3), (i, 1)]⟩ ?_ ?_
  rotate_left
  · intro ae1 K hK;have c1 := λH T => Iz (S.take i) (by omega) H T .full;have c2 := λH T => IB (D.take i) (by omega) H T .full;rw [hti] at c1;rw [NF] at c2;refine M5 K 13 [5, 11] [0, 0, 0, 0, 0, 0, 0, 0, 0, 0, 0, 1, 2, 0] [[], []] aw (by kernel_rfl) (by kernel_rfl) (by kernel_rfl) ?_;generalize hKK : ir _ _ K _ = KK;generalize hKR : N8 _ _ _ _ _ _ = KR;simp (disch := omega) [-getD_eq_getElem?_getD, dF, Jr, VU];refine oa (c1 _ _) rfl ?_; simp (disch := omega) [-getD_eq_getElem?_getD, bC, JS, VU, va];refine oa (c2 _ _) rfl ?_; simp (disch := omega) [-getD_eq_getElem?_getD];subst hKR;show _ = none /\ ∃ z d, _ = some d /\ d < _ /\ (∀ e' T', dN _ _ e' _ T' (.ptr _ 0) (_ ++ [z]) T') /\ Dn _ _ /\ YW _ (_ ++ [z]) _ _ _ 0 /\ KK ⟨lW _ d _, _ ++ [z], _⟩;refine ⟨rfl, .cells [.sl 0 [] .full, .sl 0 [] .full], 9, rfl, (by show 9 < 55; omega), λe' T' => ?_, ⟨rfl, rfl, rfl, trivial⟩, ?_, ?_⟩
    · simp (disch := omega) [-getD_eq_getElem?_getD, dN]
    · simp (disch := omega) [-getD_eq_getElem?_getD, dN, dF, Jr, VU, bC, JS, va];exact ⟨c1 _ _, by have := c2 (H ++ [.cells (iE S D), .cells (dC s), .cells [.sl 0 [] .full, .sl 0 [] .full], .cells [.sl 0 [] .full, .sl 0 [] .full]]) (T ++ [(i * 3, 3)])
                                                                                                   simpa using this⟩
    · subst hKK;simp (disch := omega) [-getD_eq_getElem?_getD];refine hK _ (dA λho => aH ⟨[(2, .int .i64 (j : Nat)), (4, .ptr H.length 0), (7, .ptr (H.length + 1) 0), (8, .ptr (H.length + 2) 0), (9, .ptr (H.length + 3) 0)], _, _⟩ (ag [] [] ?_ ?_ ?_ ?_ ho ?_) ae1)
      all_goals simp
  · refine af λK1 aO => ?_;have eS : (fK (S.drop j)).take ((S.length - j) * 3) = fK (S.drop j) := aiV (by rw [dF, hdS]; exact ahj _);have eD : (fT (D.drop j)).take (D.length - j) = fT (D.drop j) := aiV (by rw [bC, hdD]; exact ahj _);have key : ∀ (A : List Sg) (B : List (List Int)) (n : Nat) (e : Env), A = S.take i ++ one s -> B = D.take i ++ zK s -> n = A.length -> n = B.length -> n <= 401 ->
        bu (H.length + 4) (T.length + 2) e [(2, .int .i64 (j : Nat)), (4, .ptr H.length 0), (8, .ptr (H.length + 2) 0), (9, .ptr (H.length + 3) 0)] ->
        K1 ⟨e, H ++ [.cells (iE S D), .cells (dC s), .cells [.sl 0 [] .full, .sl 0 [] .full], .cells [.sl n (fK A) (.own T.length), .sl n (fT B) (.own (T.length + 1))]], T ++ [(n * 3, 3), (n, 1)]⟩ := by
      intro A B n e hA hB Ba zu CD he;have lA : (fK A).length = n * 3 := by rw [dF, <- Ba]
      have lB : (fT B).length = n := by rw [bC, <- zu]
      have rS : Kq S i j s = A ++ S.drop j := by unfold Kq; rw [hA]
      have rD : Kr D i j s = B ++ D.drop j := by unfold Kr; rw [hB]
      have lrS : (Kq S i j s).length = n + (S.length - j) := by rw [rS, ahk, <- Ba, hdS]
      have lrD : (Kr D i j s).length = n + (D.length - j) := by rw [rD, ahk, <- zu, hdD]
      refine aO _ (dA λho => aH ⟨[(2, .int .i64 (j : Nat)), (4, .ptr H.length 0), (8, .ptr (H.length + 2) 0), (9, .ptr (H.length + 3) 0)], _, _⟩ (ag [] [] (by simp) (by simp) (by simp) (by simp) ho (by simpa using he)) ?_);refine aJ [6, 13, 15, 17] [0, 0, 0, 0, 0, 0, 0, 0, 0, 0, 0, 0, 0, 1, 1, 2, 3, 3] [[], [], [], []] aw (by kernel_rfl) (by kernel_rfl) λK hK => ?_; simp (disch := omega) [-getD_eq_getElem?_getD, dF, Ln, bC, MO, hj, hjD, lA, lB, eS, eD];refine hK _ ?_; clear hK K;refine ae λK hK => ?_; simp (disch := omega) [-getD_eq_getElem?_getD]; refine hK _ ?_; clear hK K;apply ay; simp (disch := omega) [-getD_eq_getElem?_getD];refine ⟨⟨_, rfl⟩, ⟨_, rfl⟩, ?_⟩;unfold Bk iE;rw [lrS, lrD, rS, rD, <- Px, <- QO];refine gj.agg rfl λjj hjj => ?_
      match jj, hjj with
      | 0, _ => exact gj.sl rfl (BZ (by rw [ahx, xB, xB]) (by simp))
      | 1, _ => exact gj.sl rfl (BZ (by rw [ahx, ER, ER]) (by simp))
    by_cases hs : s.aA = []
    · have b1 : decide ((0 : Int) < (s.aA.length : Int)) = false := ahn (by rw [hs]; simp);have b2 : ¬ 0 < s.aA.length := by rw [hs]; simp
      refine ae λK hK => ?_; simp (disch := omega) [-getD_eq_getElem?_getD, b1, b2]; refine hK _ ?_; clear hK K;apply aD rfl;apply aq;refine key (S.take i) (D.take i) i _ ?_ ?_ hti.symm NF.symm (by omega) ?_
      · unfold one; rw [ahs hs, ahH]
      · unfold zK; rw [ahs hs, ahH]
      · simp
    · have hp := ait.2 hs;have b1 : decide ((0 : Int) < (s.aA.length : Int)) = true := ahm (by omega);have b2 : 0 < s.aA.length := hp;have lA := dF (S.take i);have lB := bC (D.take i);rw [hti] at lA;rw [NF] at lB;refine ae λK hK => ?_; simp (disch := omega) [-getD_eq_getElem?_getD, b1, b2]; refine hK _ ?_; clear hK K;apply aG rfl;refine cT [4, 8, 10, 12] [0, 0, 0, 0, 0, 0, 0, 0, 1, 1, 2, 3, 3] [[], [], [], []] aw (by kernel_rfl) (by kernel_rfl) λK hK => ?_; simp (disch := omega) [-getD_eq_getElem?_getD, lA, lB];refine hK _ ?_; clear hK K;have := λe => key (S.take i ++ [s]) (D.take i ++ [[]]) (i + 1) e (by unfold one; rw [ahq hs]) (by unfold zK; rw [ahq hs]) (by rw [ahk, hti]; rfl) (by rw [ahk, NF]; rfl) (by omega);rw [<- Lm, <- MN] at this;refine this _ ?_;simp
def PH (L:List Dc):bf (rz L)=one (eB L):=by
 have h:(eB L).aA=[]↔L=[]:=by show L.map (·.id)=[]↔_;simp
 unfold rz one
 by_cases hL:L=[]
 ·rw[ahs hL,ahs (h.2 hL)];rfl
 ·rw[ahq hL,ahq (λx=>hL (h.1 x))];rfl
def PJ (L:List Dc):bX (rz L)=zK (eB L):=by
 have h:(eB L).aA=[]↔L=[]:=by show L.map (·.id)=[]↔_;simp
 unfold rz zK
 by_cases hL:L=[]
 ·rw[ahs hL,ahs (h.2 hL)];rfl
 ·rw[ahq hL,ahq (λx=>hL (h.1 x))];rfl
def uE (x:List Sd)(i j:Nat)(L:List Dc):bf (gO x i j L)=Kq (bf x) i j (eB L):=by
 unfold Kq gO;rw[<-PH];unfold bf;rw[ahx,ahx,List.map_take,List.map_drop]
def uF (x:List Sd)(i j:Nat)(L:List Dc):bX (gO x i j L)=Kr (bX x) i j (eB L):=by
 unfold Kr gO;rw[<-PJ];unfold bX;rw[ahx,ahx,List.map_take,List.map_drop]
theorem EH {p:Nat->Bool}:∀(n i:Nat),i<n->p i=true->(∀j,i<j->j<n->p j=false)->(List.range n).reverse.find? p=some i
 |0,i,h,_,_=>absurd h (ahO _)
 |n+1,i,h,hp,hb=>by
  rw[ajS,List.reverse_append,List.reverse_singleton,List.singleton_append,List.find?_cons]
  by_cases e:i=n
  ·subst e;rw[hp]
  ·rw[hb n (by omega) (by omega)];exact EH n i (by omega) hp λj h1 h2=>hb j h1 (by omega)
def Pv {x:List Sd}{i:Nat}(hi:i<x.length)(h:rJ x i=true)(hb:∀j,j<i->rJ x j=false):iK x=some (gO x i (i+1) (iG (x.getD i e0))):=by
 have:(List.range x.length).find? (rJ x)=some i:=List.find?_range_eq_some.2 ⟨h,ahI.2 hi,λj hj=>by rw[hb j hj];rfl⟩;unfold iK;rw[this]
def OT {x:List Sd}(hb:∀j,j<x.length->rJ x j=false):(List.range x.length).find? (rJ x)=none:=aiy.2 λj hj=>by rw[hb j (ahI.1 hj)];simp
def Lk {x:List Sd}(hb:∀j,j<x.length->rJ x j=false){i:Nat}(hi:i+1<x.length)(h:re x i=true)(hn:∀j,i<j->j+1<x.length->re x j=false):iK x=some (gO x i (i+2) (both x i)):=by
 unfold iK;rw[OT hb];simp only;rw[EH (x.length-1) i (by omega) h λj h1 h2=>hn j h1 (by omega)];rfl
def Lj {x:List Sd}(hb:∀j,j<x.length->rJ x j=false)(hn:∀j,j+1<x.length->re x j=false):iK x=none:=by
 unfold iK;rw[OT hb];simp only;rw[aiy.2 λj hj=>by rw[hn j (by have:=ahI.1 (ajN.1 hj);omega)];simp];rfl
theorem Le:∀(k:Nat) {x:List Sd},GX x->dX x<=k->gy k x=gy (dX x) x:=by
 intro k
 induction k using Nat.strongRecOn with
 |_ k ih=>
  intro x hg hk
  cases hs:iK x with
  |none=>
   have:∀m,gy m x=x:=λm=>by
    cases m with
    |zero=>rfl
    |succ m=>unfold gy;rw[hs]
   rw[this,this]
  |some y=>
   obtain⟨h1,_,h3⟩:=jY hg hs;have:∀m,m<=k->dX x<=m->gy m x=gy (dX y) y:=λm hm hx=>by
    cases m with
    |zero=>omega
    |succ m=>
     show (match iK x with
      |none=>x
      |some y=>gy m y)=_
     rw[hs];exact ih m (by omega) h1 (by omega)
   rw[this k (ahj _) hk,this _ hk (ahj _)]
def zY {x y:List Sd}(hg:GX x)(hs:iK x=some y):gy (dX y) y=gy (dX x) x:=by
 obtain⟨h1,_,h3⟩:=jY hg hs;obtain⟨k,hk⟩:∃k,dX x=k+1:=⟨dX x-1,by omega⟩
 rw[hk]
 conv=>rhs;unfold gy
 rw[hs];exact(Le k h1 (by omega)).symm
theorem Ld {x:List Sd}(hs:iK x=none)(k:Nat):gy k x=x:=by
 cases k with
 |zero=>rfl
 |succ m=>unfold gy;rw[hs]
def D5 {x:List Sd}{i j:Nat}(L:List Dc)(hij:i<j)(hj:j<=x.length):(gO x i j L).length<=x.length:=by
 unfold gO rz;rw[ahk,ahk,ahJ,ah4]
 split<;>simp<;>omega
def TM {x:List Sd}(h:GX x){i:Nat}(hi:i+1<x.length):jU (eB (iG (x.getD i e0))) (eB (iG (x.getD (i+1) e0)))=(eB (both x i),0):=by
 have hn:=yk h hi;have hl:=(wF h hi).n;refine Qk (sN h (gu (by omega))) (sN h (gu hi)) (wF h hi) (λd=>?_) (λa ha b hb e=>?_) ?_
 ·unfold both;rw[eZ,ahw]
 ·rw[ahx] at hn;exact(ah2.1 hn).2.2 a.id (ahl.2 ⟨a,ha,rfl⟩) b.id (ahl.2 ⟨b,hb,rfl⟩) e
 ·unfold both at hl;rw[dW,ahk] at hl;exact hl
def BX.UD {m:Nat}{x:List Sd}(h:BX m x)(hl:x.length<=400):Y5 (bf x) (bX x):=by
 refine⟨by rw[fG];exact hl,λs hs=>?_,by rw[mh];exact hl,λd hd=>?_⟩
 ·obtain⟨p,hp,rfl⟩:=ahl.1 hs;exact h.sz hp
 ·obtain⟨p,hp,rfl⟩:=ahl.1 hd;have h1:=ki (h.g.da p hp) (h.g.dd p hp);have h2:=(h.b p hp).1;omega
def PG {x:List Sd}{i:Nat}(hi:i<x.length)(d:List Int):bf (x.set i ((x.getD i e0).1,d))=bf x:=by
 unfold bf;rw[List.map_set];apply aja ;intro k;rw[ajW]
 split
 ·rename_i h;subst h;rw[ahs (by rw[ahz];exact hi),aip,ahi hi,ahg,ahi hi];rfl
 ·rfl
def PI {x:List Sd}{i:Nat}(L:List Dc)(d:List Int):bX (x.set i (L,d))=(bX x).set i d:=by unfold bX;rw[List.map_set]
def TZ {x:List Sd}{id:Int}{i:Nat}(hi:i<x.length)(h:pz (x.getD i e0) id=true)(hb:∀j,j<i->pz (x.getD j e0) id=false):cW x id=(x.set i ((x.getD i e0).1,Gi (x.getD i e0).2 id),true):=by
 have:(List.range x.length).find? (λi=>pz (x.getD i e0) id)=some i:=List.find?_range_eq_some.2 ⟨h,ahI.2 hi,λj hj=>by rw[hb j hj];rfl⟩;unfold cW;rw[this]
def Mo {x:List Sd}{id:Int}(hb:∀j,j<x.length->pz (x.getD j e0) id=false):cW x id=(x,false):=by
 have:(List.range x.length).find? (λi=>pz (x.getD i e0) id)=none:=aiy.2 λj hj=>by rw[hb j (ahI.1 hj)];simp
 unfold cW;rw[this]
attribute [-simp] getD_eq_getElem?_getD in
theorem JE {x:List Sd}(hg:GX x)(hz:Y5 (bf x) (bX x))(id:Int)(H:List az)(T:au) :
  ar prog 67 [yH x,.int .i64 id] H T (Is (.df [yH (cW x id).1,.bool (cW x id).2]) H T):=by
 refine ar.pn ?_;show ar prog _ _ H T (BQ H T _);have hn:=hz.n;have Ga:=fG x;have hdl:=mh x;refine ah 11 [] Tryz.ntmps67 Tryz.func67 rfl (λ_ _=>Tryz.call67 _ _) (by simp) (λHO=>?_);apply ae;intro K Z;simp(disch:=omega);apply Z;have ff:bJ (H++[.cells (iE (bf x) (bX x)),.cells [.sl 0 [] .full,.sl 0 [] .full]]) T:=by
  have:=(HO.snoc (vs:=iE (bf x) (bX x)) (by simp)).snoc (vs:=[.sl 0 [] .full,.sl 0 [] .full]) (by simp);simpa using this
 refine af λK1 aO=>?_;apply ae;intro K Z;simp(disch:=omega);apply Z;apply aj;refine aI (X:=Nat) (λi=>⟨[(1,.int .i64 id),(2,.ptr H.length 0),(4,.ptr (H.length+1) 0),(9,.int .i64 ((bf x).length:Nat)),(10,.int .i64 (i:Nat))],H++[.cells (iE (bf x) (bX x)),.cells [.sl 0 [] .full,.sl 0 [] .full]],T⟩)
  (λi=>i<=x.length/\∀j,j<i->pz (x.getD j e0) id=false) (λi=>x.length-i) 0 ?_ ?_ ?_
 ·exact⟨ahu _,λj hj=>absurd hj (ahO _)⟩
 ·refine ag [] [] ?_ ?_ ?_ ?_ ff ?_
  all_goals simp
 ·rintro i ⟨g1,g2⟩;apply ae;intro K Z;simp(disch:=omega);apply Z;refine af λK2 bc=>?_;refine aT rfl (λhk=>?_) (λhk=>?_)
  ·simp  at hk;have hi:i<x.length:=by omega
   have hp:=gu hi;have cl:=λH T=>wz (bf x) (bX x) i hk hz H T;rw[fH hi,gD hi,xi,oG hg hp] at cl;have cc:=λH T=>qd ((iG (x.getD i e0)).map (·.id)) id (by rw[ahz];have:=sX (x.getD i e0);have:=(hg.vd _ hp).n;exact aho (by omega:_<=2000) (by decide)) H T .none;have aam:=hz.l (x.getD i e0).2 (by unfold bX;exact ahl.2 ⟨_,hp,rfl⟩);have cr:=λH T=>Ok (x.getD i e0).2 [id] aam (by simp) H T .none .full;have d1:=oH (bX x) i (by omega);rw[gD hi] at d1;have aai:=λh=>TZ hi h g2;have hh:pz (x.getD i e0) id=decide (id∈(iG (x.getD i e0)).map (·.id)):=rfl;have eor:comb (λ_ _=>true) (x.getD i e0).2 [id]=Gi (x.getD i e0).2 id:=rfl;rw[eor] at cr;have cn:=λH T=>IA (bX x) (λh=>by rw[h] at hdl;simp at hdl;omega) (by omega) H T .none;apply aq;simp(disch:=omega) ;apply bc;clear bc;refine af λK3 bD=>?_;apply aj;apply ae;intro K Z;simp(disch:=omega);apply Z;refine af λK4 lN=>?_
   cases hc:pz (x.getD i e0) id with
   |false=>
    rw[<-hh,hc] at cc;refine ae λK hK=>?_;simp(disch:=omega) ;refine ak (cl _ _) ?_;simp(disch:=omega) ;refine ak (cc _ _) ?_;simp(disch:=omega) ;apply hK;apply aG rfl;apply aF;simp(disch:=omega) ;apply bD;clear bD;refine aB λK hK=>?_;simp(disch:=omega) ;apply hK;refine⟨i+1,⟨by show i+1<=_;omega,λj hj=>?_⟩,by show x.length-(i+1)<x.length-i;omega,?_⟩
    ·rcases ahr j i with h1|h1
     ·exact g2 j h1
     ·have:j=i:=by omega
      subst this;exact hc
    ·refine ag [] [] ?_ ?_ ?_ ?_ ff ?_
     all_goals simp
   |true=>
    rw[<-hh,hc] at cc;have e1:=PG hi (Gi (x.getD i e0).2 id);have e2:=PI (x:=x) (i:=i) (x.getD i e0).1 (Gi (x.getD i e0).2 id);refine ae λK hK=>?_;simp(disch:=omega) ;refine ak (cl _ _) ?_;simp(disch:=omega) ;refine ak (cc _ _) ?_;simp(disch:=omega) ;apply hK;apply aD rfl;apply aq;simp(disch:=omega) ;apply lN;clear lN;refine ae λK hK=>?_;simp(disch:=omega) ;refine⟨_,cn _ _,?_⟩;rintro r' H' T' ⟨rfl,k,rfl,rfl⟩;simp(disch:=omega) ;apply hK;have d2:(fT (bX x)++List.replicate k AV.top).getD i .top=CK (x.getD i e0).2:=by
     rw[ahg,ahp (by rw[bC];omega),<-getD_eq_getElem?_getD];exact d1
    refine aJ [12] [0,0,0,0,0,0,0,0,0,0,0,0,0] [[]] aw (by kernel_rfl) (by kernel_rfl) λK hK=>?_;simp(disch:=omega)[d2,hi,hdl,bC];refine aC (cr _ _) rfl ?_;simp(disch:=omega)[bC,hdl,show i+1<=x.length+k by omega];apply hK;apply ae;intro K Z;simp(disch:=omega);apply Z;apply ay;simp(disch:=omega) ;have es:(fT (bX x)++List.replicate k AV.top).set i (CK (Gi (x.getD i e0).2 id))=fT ((bX x).set i (Gi (x.getD i e0).2 id))++List.replicate k AV.top:=by
     rw[List.set_append_left _ _ (by rw[bC];omega),QN]
    have ln:x.length=((bX x).set i (Gi (x.getD i e0).2 id)).length:=by rw[aiE,hdl]
    rw[aai hc,es];refine⟨⟨_,rfl⟩,⟨[],(ahH _).symm⟩,gj.pair ?_ (gj.same (.bool _))⟩;unfold yH Bk iE;simp only;rw[e1,e2,<-ln];refine gj.agg rfl λjj hjj=>?_
    match jj,hjj with
    |0,_=>exact gj.sl rfl (BZ (xB _).symm (by simp))
    |1,_=>exact gj.NT (Nat.le_add_right _ _) (by simp;rfl) (by simp)
  ·simp  at hk;have:i=x.length:=by omega
   subst this;apply aF;simp(disch:=omega) ;apply aO;clear aO;apply ae;intro K Z;simp(disch:=omega);apply Z;apply ay;simp(disch:=omega) ;rw[Mo g2];exact⟨⟨_,rfl⟩,⟨[],(ahH _).symm⟩,by
    have hb:Below H.length T.length (.df [yH x,.bool false]):=by simp
    exact gj.same hb⟩
attribute [-simp] getD_eq_getElem?_getD in
theorem KX (S:List Sg)(D:List (List Int))(hz:Y5 S D)(hall:∀i,i<=S.length->(ot S D i).length<=1000)(hlv:∀i,i<S.length->(Nh (S.getD i bR) (D.getD i [])).length<=1000)(H:List az)(T:au) :
  ar prog 17 [Bk S D] H T (Is (.bool (m8 S D)) H T):=by
 refine ar.bV ?_ (by simp);have hn:=hz.n;refine ah 19 [] Tryz.ntmps17 Tryz.func17 rfl (λ_ _=>Tryz.call17 _ _) (by simp) (λHO=>?_);apply ae;intro K Z;simp(disch:=omega);apply Z;have ff:bJ (H++[.cells (iE S D)]) T:=HO.snoc (by simp);refine af λK1 aO=>?_
 by_cases YG:S.length=D.length
 rotate_left
 ·have e:m8 S D=false:=by unfold m8;rw[ahn YG];rfl
  have b1:((S.length:Int)==(D.length:Int))=false:=by
   simp only[ah5,ne_eq];omega
  refine ae λK hK=>?_;simp(disch:=omega)[b1,YG];apply hK;refine aT rfl (λh=>?_) (λh=>absurd h (by simp;omega));apply ae;intro K Z;simp(disch:=omega);apply Z;apply ay;simp(disch:=omega) ;rw[e]
 have eS:m8 S D=((List.range S.length).all (Rd S D)&&decide ((ot S D S.length).length<=2000)):=by unfold m8;rw[ahm YG,ais]
 have b1:((S.length:Int)==(D.length:Int))=true:=by
  simp only[ajb];omega
 refine ae λK hK=>?_;simp(disch:=omega)[b1,YG];apply hK;apply aD rfl;apply aq;simp(disch:=omega) ;apply aO;clear aO;apply ae;intro K Z;simp(disch:=omega);apply Z;refine af λK1 aO=>?_;apply ae;intro K Z;simp(disch:=omega);apply Z;apply aj;refine aI (X:=Nat) (λi=>⟨[(1,.ptr H.length 0),(3,CK (ot S D i)),(16,.sl S.length (fK S) .none),(17,.int .i64 (S.length:Nat)),(18,.int .i64 (i:Nat))],H++[.cells (iE S D)],T⟩)
  (λi=>i<=S.length/\∀j,j<i->Rd S D j=true) (λi=>S.length-i) 0 ?_ ?_ ?_
 ·exact⟨ahu _,λj hj=>absurd hj (ahO _)⟩
 ·refine ag [] [] ?_ ?_ ?_ ?_ ff ?_
  all_goals simp[ot]
 ·rintro i ⟨g1,g2⟩;apply ae;intro K Z;simp(disch:=omega);apply Z;refine af λK2 bc=>?_;refine aT rfl (λhk=>?_) (λhk=>?_)
  ·simp  at hk;have hcut:=ke S i hk;have hp:=λh=>(BH S (i-1) h).1;have d1:=oH D i (by omega);have hsz:=hz.s _ (aS S i bR hk);have hdl:(D.getD i []).length<=1000:=hz.l _ (aS D i [] (by omega));have va:i<D.length:=by omega
   have cv:=λH T=>jW (S.getD i bR) hsz H T;have cd:=λH T=>iD (D.getD i []) (aho hdl (by decide)) H T .none;have cw:=λH T=>oK (D.getD i []) (S.getD i bR).aA hdl hsz.d H T .none .none;have cl:=λH T=>wz S D i hk hz H T;have ca:=λH T=>Pd (ot S D i) (Nh (S.getD i bR) (D.getD i [])) (hall i g1) (hlv i hk) H T .none .none;have co:=λH T=>Ok (ot S D i) (Nh (S.getD i bR) (D.getD i [])) (hall i g1) (hlv i hk) H T .none .none;have ek:Rd S D i=(((aX (S.getD i bR)&&decide ((S.getD i bR).aA≠[]))&&decide (i=0\/2*(S.getD i bR).aA.length<=(S.getD (i-1) bR).aA.length)) &&
    ((oZ (D.getD i []) 1 1000000000&&decide (comb (λ_ q=>!q) (D.getD i []) (S.getD i bR).aA=[]))&&decide (2*(D.getD i []).length<=(S.getD i bR).aA.length)) &&
    decide (comb (λp q=>p&&q) (ot S D i) (Nh (S.getD i bR) (D.getD i []))=[])):=rfl
   have ea:comb (λ_ _=>true) (ot S D i) (Nh (S.getD i bR) (D.getD i []))=ot S D (i+1):=rfl;rw[ea] at co;have bad:Rd S D i=false->m8 S D=false:=λh=>by rw[eS,mR hk h];rfl
   have wT:Rd S D i=true->∀j,j<i+1->Rd S D j=true:=λh j hj=>by
    rcases ahr j i with h1|h1
    ·exact g2 j h1
    ·have:j=i:=by omega
     subst this;exact h
   have zt:i≠0->(S.getD (i-1) bR).aA.length<=1000:=λh=>(hz.s _ (aS S (i-1) bR (by omega))).d;have sr:=tJ (λ_ q=>!q) (D.getD i []) (S.getD i bR).aA;have vb:=tJ (λp q=>p&&q) (ot S D i) (Nh (S.getD i bR) (D.getD i []));have CT:=hlv i hk;have hai:=hall i g1;have hsd:=hsz.d;generalize S.getD (i-1) bR=pv at *;generalize S.getD i bR=s at *;generalize D.getD i []=d at *;generalize lM:ot S D (i+1)=nx at *;generalize ot S D i=al at *;generalize Nh s d=lv at *;generalize comb (λp q=>p&&q) al lv=an at *;generalize comb (λ_ q=>!q) d s.aA=wi at *;apply aq;simp(disch:=omega) ;apply bc;clear bc;refine af λK3 bD=>?_;apply aj;refine ae λK hK=>?_;simp(disch:=omega)[hcut,hk,dF];apply hK;apply ae;intro K Z;simp(disch:=omega);apply Z;have fx:bJ (H++[.cells (iE S D),.cells (dC s)]) T:=by
    have:=ff.snoc (vs:=dC s) (by simp);simpa using this
   refine af λK4 lN=>?_;refine ae λK hK=>?_;have Bj:∀e,Rd S D i=false->bu (H.length+2) T.length e [(49,.bool true)]->K ⟨e,H++[.cells (iE S D),.cells (dC s)],T⟩:=by
    intro e hb he;refine hK _ (aH ⟨[(49,.bool true)],H++[.cells (iE S D),.cells (dC s)],T⟩ (ag [] [] (by simp) (by simp) (by simp) (by simp) fx (by simpa using he)) ?_);apply aG rfl;apply ae;intro K Z;simp(disch:=omega);apply Z;apply ay;simp(disch:=omega) ;rw[bad hb]
   have U7:∀e,aX s=true->s.aA≠[]->(i=0\/2*s.aA.length<=pv.aA.length)->bu (H.length+2) T.length e [(1,.ptr H.length 0),(3,CK al),(4,.int .i64 (i:Nat)),(5,.ptr (H.length+1) 0),(6,.int .i64 (s.aA.length:Nat)),(16,.sl S.length (fK S) .none),(17,.int .i64 (S.length:Nat)),(18,.int .i64 (i:Nat)),(49,.bool false)]->K ⟨e,H++[.cells (iE S D),.cells (dC s)],T⟩:=by
    intro e t1 t2 t3 he;refine hK _ (aH ⟨[(1,.ptr H.length 0),(3,CK al),(4,.int .i64 (i:Nat)),(5,.ptr (H.length+1) 0),(6,.int .i64 (s.aA.length:Nat)),(16,.sl S.length (fK S) .none),(17,.int .i64 (S.length:Nat)),(18,.int .i64 (i:Nat)),(49,.bool false)],H++[.cells (iE S D),.cells (dC s)],T⟩ (ag [] [] (by simp) (by simp) (by simp) (by simp) fx (by simpa using he)) ?_);clear hK Bj he;rw[t1,ahm t2,ahm t3] at ek;simp only[ais] at ek;apply aD rfl;apply aq;simp(disch:=omega) ;apply lN;clear lN;refine af λK4 lN=>?_;refine aJ [] [0,0,0,0,0,0,0,0,0,0,0,0,0,0,0,0,0,0,0,0,0,0,0,0,0,0,0,0,0,0] [] aw (by kernel_rfl) (by kernel_rfl) λK hK=>?_;have Bj:∀e,Rd S D i=false->bu (H.length+2) T.length e [(79,.bool true)]->K ⟨e,H++[.cells (iE S D),.cells (dC s)],T⟩:=by
     intro e hb he;refine hK _ (aH ⟨[(79,.bool true)],H++[.cells (iE S D),.cells (dC s)],T⟩ (ag [] [] (by simp) (by simp) (by simp) (by simp) fx (by simpa using he)) ?_);apply aG rfl;apply ae;intro K Z;simp(disch:=omega);apply Z;apply ay;simp(disch:=omega) ;rw[bad hb]
    cases hv:oZ d 1 1000000000 with
    |false=>
     rw[hv] at cd ek;simp(disch:=omega)[d1,va,bC];refine aC (cd _ _) rfl ?_;simp(disch:=omega)[d1,va,bC];refine Bj _ (by rw[ek];rfl) ?_;simp
    |true=>
    rw[hv] at cd ek;simp only[ais] at ek
    by_cases hw:wi=[]
    rotate_left
    ·have hwp:0<wi.length:=ait.2 hw;have bw:decide ((0:Int)<(wi.length:Int))=true:=ahm (by omega);simp(disch:=omega)[d1,va,bC];refine aC (cd _ _) rfl ?_;simp(disch:=omega)[d1,va,bC];refine aC (cw _ _) rfl ?_;simp(disch:=omega)[d1,va,bC,bw,hwp];refine Bj _ (by rw[ek,ahn hw];simp) ?_;simp
    subst hw;rw[ahm rfl,ais] at ek
    by_cases hh:2*d.length<=s.aA.length
    rotate_left
    ·have bh:decide ((s.aA.length:Int)<2*(d.length:Int))=true:=ahm (by omega);have bh2:s.aA.length<2*d.length:=by omega
     simp(disch:=omega)[d1,va,bC];refine aC (cd _ _) rfl ?_;simp(disch:=omega)[d1,va,bC];refine aC (cw _ _) rfl ?_;simp(disch:=omega)[d1,va,bC,bh,bh2];refine Bj _ (by rw[ek,ahn hh];simp) ?_;simp
    ·have bh:decide ((s.aA.length:Int)<2*(d.length:Int))=false:=ahn (by omega);have bh2:¬s.aA.length<2*d.length:=by omega
     rw[ahm hh,ais] at ek;simp(disch:=omega)[d1,va,bC];refine aC (cd _ _) rfl ?_;simp(disch:=omega)[d1,va,bC];refine aC (cw _ _) rfl ?_;simp(disch:=omega)[d1,va,bC,bh,bh2];refine hK _ (aH ⟨[(1,.ptr H.length 0),(3,CK al),(4,.int .i64 (i:Nat)),(16,.sl S.length (fK S) .none),(17,.int .i64 (S.length:Nat)),(18,.int .i64 (i:Nat)),(79,.bool false)],H++[.cells (iE S D)],T⟩ (ag [.cells (dC s)] [] (by simp) (by simp) (by simp) (by simp) ff (by simp)) ?_);clear hK Bj;apply aD rfl;apply aq;simp(disch:=omega) ;apply lN;clear lN;refine ae λK hK=>?_;simp(disch:=omega) ;refine ak (cl _ _) ?_;simp(disch:=omega) ;apply hK;refine af λK4 lN=>?_
     by_cases hx:an=[]
     ·subst hx;rw[ahm rfl] at ek;refine ae λK hK=>?_;simp(disch:=omega) ;refine ak (ca _ _) ?_;simp(disch:=omega) ;apply hK;apply aD rfl;apply aq;simp(disch:=omega) ;apply lN;clear lN;refine aB λK hK=>?_;simp(disch:=omega) ;refine ak (co _ _) ?_;simp(disch:=omega) ;apply hK;apply bD;clear bD;refine aB λK hK=>?_;simp(disch:=omega) ;apply hK;refine⟨i+1,⟨by show i+1<=_;omega,wT ek⟩,by show S.length-(i+1)<S.length-i;omega,?_⟩;refine ag [] [] ?_ ?_ ?_ ?_ ff ?_
      all_goals simp[lM]
     ·have hxp:0<an.length:=ait.2 hx;have bx:decide ((0:Int)<(an.length:Int))=true:=ahm (by omega);refine ae λK hK=>?_;simp(disch:=omega) ;refine ak (ca _ _) ?_;simp(disch:=omega)[bx,hxp];apply hK;apply aG rfl;apply ae;intro K Z;simp(disch:=omega);apply Z;apply ay;simp(disch:=omega) ;rw[bad (by rw[ek,ahn hx])]
   cases hv:aX s with
   |false=>
    rw[hv] at cv;simp(disch:=omega) ;refine ak (cv _ _) ?_;simp(disch:=omega) ;refine Bj _ (by rw[ek,hv];rfl) ?_;simp
   |true=>
   rw[hv] at cv
   by_cases h0:s.aA=[]
   ·have b0:decide ((s.aA.length:Int)<1)=true:=ahm (by rw[h0];simp);have Y0:s.aA.length<1:=by rw[h0];simp
    simp(disch:=omega) ;refine ak (cv _ _) ?_;simp(disch:=omega)[b0,Y0];refine Bj _ (by rw[ek,hv,ahn (λx=>x h0)];rfl) ?_;simp
   have eV:=ait.2 h0;have b0:decide ((s.aA.length:Int)<1)=false:=ahn (by omega);have Y0:¬s.aA.length<1:=by omega
   by_cases Rr:i=0
   ·have b3:decide ((0:Int)<(i:Int))=false:=ahn (by omega);simp(disch:=omega) ;refine ak (cv _ _) ?_;simp(disch:=omega)[b0,Y0,b3,Rr];refine U7 _ hv h0 (.inl Rr) ?_;simp[Rr]
   ·have hp:=hp (by omega);have zt:=zt Rr;have b3:decide ((0:Int)<(i:Int))=true:=ahm (by omega);have b33:0<i:=by omega
    have ei:(i:Int)-1=((i-1:Nat):Int):=by omega
    have NI:i-1<S.length:=by omega
    by_cases hh:2*s.aA.length<=pv.aA.length
    ·have b4:decide ((pv.aA.length:Int)<2*(s.aA.length:Int))=false:=ahn (by omega);have b44:¬pv.aA.length<2*s.aA.length:=by omega
     simp(disch:=omega) ;refine ak (cv _ _) ?_;simp(disch:=omega)[b0,Y0,b3,b33,ei,hp,NI,b4,b44,dF];refine U7 _ hv h0 (.inr hh) ?_;simp
    ·have b4:decide ((pv.aA.length:Int)<2*(s.aA.length:Int))=true:=ahm (by omega);have b44:pv.aA.length<2*s.aA.length:=by omega
     simp(disch:=omega) ;refine ak (cv _ _) ?_;simp(disch:=omega)[b0,Y0,b3,b33,ei,hp,NI,b4,b44,dF];refine Bj _ (by rw[ek,hv,ahm h0,ahn (λx=>x.elim Rr hh)];rfl) ?_;simp
  ·simp  at hk;have:i=S.length:=by omega
   subst this;have hai:=hall _ (ahj _);have eA:m8 S D=decide ((ot S D S.length).length<=2000):=by rw[eS,iQ g2];rfl
   rw[ahm (by omega)] at eA;generalize ot S D S.length=al at *;have b9:decide ((al.length:Int)<=2000)=true:=ahm (by omega);have b99:al.length<=2000:=by omega
   apply aF;simp(disch:=omega) ;apply aO;clear aO;refine ae λK hK=>?_;simp(disch:=omega)[b9,b99];apply hK;apply ay;simp(disch:=omega) ;exact eA
def mD (x:List Sd)(i:Nat):(alive (x.take i)).length<=(alive x).length:=by
 conv=>rhs;rw[<-List.take_append_drop i x,dw,ahk]
 omega
def uV {x:List Sd}(hg:GX x){i:Nat}(hi:i<=x.length):(jQ x i).length<=(alive x).length:=by
 rw[pX hg i hi,ahz];unfold fC;rw[dW];exact mD x i
def uK {x:List Sd}(hg:GX x){p:Sd}(hp:p∈x):(jM p).length<=(alive x).length:=by
 rw[oG hg hp,ahz];exact oN hp
def BX.jD {m:Nat}{x:List Sd}(h:BX m x)(ht:GK x)(hl:x.length<=400)(H:List az)(T:au):ar prog 17 [yH x] H T (Is (.bool true) H T):=by
 have hg:=h.g;have ha:=h.a;rw[<-Jn hg ht];refine KX (bf x) (bX x) (h.UD hl) (λi hi=>?_) (λi hi=>?_) H T
 ·rw[fG] at hi;rw[wI hg i hi,ahz];unfold fC;rw[dW];have:=mD x i;omega
 ·rw[fG] at hi;rw[fH hi,gD hi,xi];have:=uK hg (gu hi);omega
attribute [-simp] getD_eq_getElem?_getD in
theorem QL {m:Nat}{x:List Sd}(h:BX m x)(hl:x.length<=400)(H:List az)(T:au):ar prog 27 [yH x] H T (Is (CK (jQ x x.length)) H T):=by
 refine ar.bV ?_ (by simp);have hg:=h.g;have ha:=h.a;have hz:=h.UD hl;have Ga:=fG x;refine ah 9 [] Tryz.ntmps27 Tryz.func27 rfl (λ_ _=>Tryz.call27 _ _) (by simp) (λHO=>?_);apply ae;intro K Z;simp(disch:=omega);apply Z;have ff:bJ (H++[.cells (iE (bf x) (bX x))]) T:=HO.snoc (by simp);apply ae;intro K Z;simp(disch:=omega);apply Z;refine af λK1 aO=>?_;apply ae;intro K Z;simp(disch:=omega);apply Z;apply aj;refine aI (X:=Nat) (λi=>⟨[(1,.ptr H.length 0),(3,CK (jQ x i)),(7,.int .i64 ((bf x).length:Nat)),(8,.int .i64 (i:Nat))],H++[.cells (iE (bf x) (bX x))],T⟩) (λi=>i<=x.length) (λi=>x.length-i) 0 ?_ ?_ ?_
 ·exact ahu _
 ·refine ag [] [] ?_ ?_ ?_ ?_ ff ?_
  all_goals simp[jQ]
 ·intro i g1;apply ae;intro K Z;simp(disch:=omega);apply Z;refine af λK2 bc=>?_;refine aT rfl (λhk=>?_) (λhk=>?_)
  ·simp  at hk;have hi:i<x.length:=by omega
   have hp:=gu hi;have cl:=λH T=>wz (bf x) (bX x) i hk hz H T;rw[fH hi,gD hi,xi] at cl;have l1:=uV hg g1;have l2:=uV hg (show i+1<=x.length from hi);have l3:=uK hg hp;have e1:Gg [] (jQ x i)=jQ x i:=by rw[pX hg i g1];exact sV (nH (gL (iu hg i)))
   have co:=λH T=>OP [jQ x i,jM (x.getD i e0)] (by simp) (λd hd=>by
    rcases ahL.1 hd with rfl|h1
    ·omega
    ·rw[ah0.1 h1];omega) (λk hk=>by
    match k with
    |0=>simp[F9]
    |1=>show (Gg [] (jQ x i)).length<=1000;rw[e1];omega
    |k+2=>rw[aiV (by simp)];show (jQ x (i+1)).length<=1000;omega) H T .full
   rw[show F9 [jQ x i,jM (x.getD i e0)]=jQ x (i+1) from rfl] at co;generalize lM:jQ x (i+1)=nx at *;generalize jQ x i=q at *;generalize jM (x.getD i e0)=lv at *;apply aq;simp(disch:=omega) ;apply bc;clear bc;refine af λK3 bD=>?_;apply aj;apply ae;intro K Z;simp(disch:=omega);apply Z;refine aB λK hK=>?_;simp(disch:=omega) ;refine ak (cl _ _) ?_;simp(disch:=omega) ;refine ak (co _ _) ?_;simp(disch:=omega) ;apply hK;apply bD;clear bD;refine aB λK hK=>?_;simp(disch:=omega) ;apply hK;refine⟨i+1,by show i+1<=_;omega,by show x.length-(i+1)<x.length-i;omega,?_⟩;refine ag [] [] ?_ ?_ ?_ ?_ ff ?_
   all_goals simp[lM]
  ·simp  at hk;have:i=x.length:=by omega
   subst this;apply aF;simp(disch:=omega) ;apply aO;clear aO;apply ae;intro K Z;simp(disch:=omega);apply Z;apply ay;simp(disch:=omega) 
def Tv (d:Dc)(k:Ky):(iX d k).length<=(dn d).length:=by
 unfold iX dn;rw[ahz,<-qB,ahz];exact ahU _ _
theorem nR (L:List Dc)(k:Ky):(dg L k).length<=L.length:=by
 unfold dg
 induction L with
 |nil=>simp
 |cons d L ih=>
  rw[ahy,ahk,ahS];have:(CM d k).length<=1:=by unfold CM;split<;>simp
  omega
def BX.post {m:Nat}{x:List Sd}(h:BX m x)(hm:m<=1000){L:List Dc}(hL:∀d∈L,∃p∈x,d∈p.1)(k:Ky):∀p∈dg L k,p.2.length<=1000:=by
 intro p hp;obtain⟨d,hd,rfl,_⟩:=fc hp;obtain⟨q,hq,hdq⟩:=hL d hd;have h1:=Tv d k;have h2:=(h.w q hq d hdq).k;show (iX d k).length<=1000;omega
attribute [-simp] getD_eq_getElem?_getD in
def tE {m:Nat}{x:List Sd}(h:BX m x)(hm:m<=1000)(hl:x.length<=400)(f:Int)(w:Bs)(H:List az)(T:au) :
  ar prog 29 [yH x,.int .i64 f,.str w] H T (Is (.sl (eF x (f,w) x.length).length (bA (eF x (f,w) x.length)) .none) H T):=by
 refine ar.bV ?_ (by simp);have hg:=h.g;have ha:=h.a;have hz:=h.UD hl;have Ga:=fG x;refine ah 14 [] Tryz.ntmps29 Tryz.func29 rfl (λ_ _=>Tryz.call29 _ _) (by simp) (λHO=>?_);apply ae;intro K Z;simp(disch:=omega);apply Z;have ff:bJ (H++[.cells (iE (bf x) (bX x))]) T:=HO.snoc (by simp);apply ae;intro K Z;simp(disch:=omega);apply Z;refine af λK1 aO=>?_;apply ae;intro K Z;simp(disch:=omega);apply Z;apply aj;refine aI (X:=Nat) (λi=>⟨[(1,.int .i64 f),(2,.str w),(3,.ptr H.length 0),(7,.sl (eF x (f,w) i).length (bA (eF x (f,w) i)) .none),(11,.sl (bf x).length (fK (bf x)) .none),(12,.int .i64 ((bf x).length:Nat)),(13,.int .i64 (i:Nat))],H++[.cells (iE (bf x) (bX x))],T⟩) (λi=>i<=x.length) (λi=>x.length-i) 0 ?_ ?_ ?_
 ·exact ahu _
 ·refine ag [] [] ?_ ?_ ?_ ?_ ff ?_
  all_goals simp[eF,tu]
 ·intro i g1;apply ae;intro K Z;simp(disch:=omega);apply Z;refine af λK2 bc=>?_;refine aT rfl (λhk=>?_) (λhk=>?_)
  ·simp  at hk;have hi:i<x.length:=by omega
   have hp:=gu hi;have hcut:=ke (bf x) i hk;rw[fH hi] at hcut;have cl:=λH T=>wz (bf x) (bX x) i hk hz H T;rw[fH hi,gD hi,xi] at cl;have cf:=λH T=>QB (eB (x.getD i e0).1) (h.sz hp) f w H T;have hv:=hg.vd _ hp;have hfb:=vC hv.n hv.lt hv.v (f,w);have l3:=uK hg hp;have hb:=h.b _ hp;have f1:(iO (eB (x.getD i e0).1) (f,w)).length<=1000:=by
    rw[hfb];have:=nR (x.getD i e0).1 (f,w);omega
   have f2:∀p∈iO (eB (x.getD i e0).1) (f,w),p.2.length<=1000:=by rw[hfb];exact h.post hm (λd hd=>⟨_,hp,hd⟩) (f,w)
   have co:=λH T=>Tz (iO (eB (x.getD i e0).1) (f,w)) (jM (x.getD i e0)) f1 f2 (by omega) H T .none .none;have eo:l0 (iO (eB (x.getD i e0).1) (f,w)) (jM (x.getD i e0))=dg (iG (x.getD i e0)) (f,w):=by
    rw[hfb,Ao hv (f,w) (by rw[oG hg hp];exact nH (sN hg hp)),Ar hg hp]
   have o1:(l0 (iO (eB (x.getD i e0).1) (f,w)) (jM (x.getD i e0))).length<=1000:=by
    rw[eo];have:=nR (iG (x.getD i e0)) (f,w);have:=oN hp;omega
   have o2:∀p∈l0 (iO (eB (x.getD i e0).1) (f,w)) (jM (x.getD i e0)),p.2.length<=1000:=by rw[eo];exact h.post hm (λd hd=>⟨_,hp,mf hd⟩) (f,w)
   have q1:(eF x (f,w) i).length<=1000:=by
    rw[tF hg (f,w) i g1];have h1:=nR (fC (x.take i)) (f,w);have h2:(fC (x.take i)).length=(alive (x.take i)).length:=dW _;have h3:=mD x i;omega
   have q2:∀p∈eF x (f,w) i,p.2.length<=1000:=by
    rw[tF hg (f,w) i g1];refine h.post hm (λd hd=>?_) (f,w);obtain⟨p,hp,hd⟩:=qm.1 hd;exact⟨p,ajw hp,mf hd⟩
   have cu:=λH T=>DP (eF x (f,w) i) (l0 (iO (eB (x.getD i e0).1) (f,w)) (jM (x.getD i e0))) q1 o1 q2 o2 H T .none .none;rw[show ja (eF x (f,w) i) (l0 (iO (eB (x.getD i e0).1) (f,w)) (jM (x.getD i e0)))=eF x (f,w) (i+1) from rfl] at cu;clear eo hfb;generalize lM:eF x (f,w) (i+1)=nx at *;generalize eF x (f,w) i=q at *;generalize l0 (iO (eB (x.getD i e0).1) (f,w)) (jM (x.getD i e0))=o at *;generalize iO (eB (x.getD i e0).1) (f,w)=fs at *;generalize jM (x.getD i e0)=lv at *;generalize eB (x.getD i e0).1=s at *;apply aq;simp(disch:=omega) ;apply bc;clear bc;refine af λK3 bD=>?_;apply aj;refine ae λK hK=>?_;simp(disch:=omega)[hcut,hk,dF];apply hK;refine cT [] [0,0,0,0,0,0,0,0,0,0,0] [] aw (by kernel_rfl) (by kernel_rfl) λK hK=>?_;simp(disch:=omega) ;refine aC (cf _ _) rfl ?_;simp(disch:=omega) ;refine aC (cl _ _) rfl ?_;simp(disch:=omega) ;refine aC (co _ _) rfl ?_;simp(disch:=omega) ;refine aC (cu _ _) rfl ?_;simp(disch:=omega) ;apply hK;apply bD;clear bD;refine aB λK hK=>?_;simp(disch:=omega) ;apply hK;refine⟨i+1,by show i+1<=_;omega,by show x.length-(i+1)<x.length-i;omega,?_⟩;refine ag [.cells (dC s)] [] ?_ ?_ ?_ ?_ ff ?_
   all_goals simp[lM]
  ·simp  at hk;have:i=x.length:=by omega
   subst this;apply aF;simp(disch:=omega) ;apply aO;clear aO;apply ae;intro K Z;simp(disch:=omega);apply Z;apply ay;simp(disch:=omega) 
end Go.Proofs.YtoejlmpbebjemaaGreat
