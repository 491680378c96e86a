/- Small functions of the index (layer 40): dead, live, or, Docs. Clones of lists of segments and of lists of lists; segments replaced (layer 40). One step of tidying an index (layer 40, plain). index.kill (layer 40). index.Valid (layer 40). index.Docs, Find, Put and Drop (layer 40).
  Conditions: as the theorems say. -/
import Derived.Test.YtoejlmpbebjemaaGreatXZa
import Derived.Test.YtoejlmpbebjemaaGreatGZy
import Derived.Test.YtoejlmpbebjemaaGreatAmC
set_option linter.all false
set_option maxRecDepth 100000
set_option maxHeartbeats 16000000
open List (getD_eq_getElem?_getD)
namespace Go.Proofs.YtoejlmpbebjemaaGreat
open Go.Proofs.Tryz(prog)
open Go Go.Am ia cO eN
def D9 {α:Type}{l:List α}{i:Nat}{d:α}(h:l.length<=i):l.getD i d=d:=by rw[agB,ah2 h];rfl
attribute [-simp] getD_eq_getElem?_getD in
def BJ (S:List Sg)(D:List (List Int))(i:Nat)(hi:i<=1000)(hD:D.length<=400)(H:List aA)(T:au) :
  ar prog 90 [A4 S D,.int .i64 (i:Nat)] H T (Is (Cm (D.getD i [])) H T):=by
 refine ar.bZ ?_ (by simp);refine ah 5 [] Tryz.ntmps90 Tryz.func90 rfl (λ_ _=>Tryz.call90 _ _) (by simp) (λHO=>?_);apply ae;intro K Z;simp(disch:=omega);apply Z;refine af λK1 aP=>?_
 by_cases hk:i<D.length
 ·have a1:=oD D i hk;have hn:¬D.length<=i:=by omega
  have b1:decide ((D.length:Int)<=(i:Int))=false:=agI (by omega);refine ae λK hK=>?_;simp(disch:=omega)[hn,b1];apply hK;apply aF rfl;apply aq;simp(disch:=omega) ;apply aP;clear aP;refine ae λK hK=>?_;simp(disch:=omega)[a1,hk,bF];apply hK;apply az;simp(disch:=omega) 
 ·have hn:D.length<=i:=by omega
  have b1:decide ((D.length:Int)<=(i:Int))=true:=agH (by omega);have e:D.getD i []=[]:=D9 hn;rw[e];refine ae λK hK=>?_;simp(disch:=omega)[hn,b1];apply hK;apply aH rfl;apply ae;intro K Z;simp(disch:=omega);apply Z;apply az;simp(disch:=omega) 
attribute [-simp] getD_eq_getElem?_getD in
def wc (S:List Sg)(D:List (List Int))(i:Nat)(hi:i<S.length)(hz:Ym S D)(H:List aA)(T:au) :
  ar prog 63 [A4 S D,.int .i64 (i:Nat)] H T (Is (Cm (Mq (S.getD i bV) (D.getD i []))) H T):=by
 refine ar.bZ ?_ (by simp);have hn:=hz.n;have cd:=λH T=>BJ S D i (by omega) hz.d H T;have zl:(D.getD i []).length<=1000:=by
  by_cases h:i<D.length
  ·exact hz.l _ (aT D i [] h)
  ·rw[D9 (by omega)];simp
 have cw:=λH T=>oG (S.getD i bV).aB (D.getD i []) (hz.s _ (aT S i bV hi)).d zl H T .none .none;obtain⟨a1,a2,a3⟩:=Bn S i hi;unfold Mq;generalize D.getD i []=d at *;generalize S.getD i bV=s at *;refine ah 5 [] Tryz.ntmps63 Tryz.func63 rfl (λ_ _=>Tryz.call63 _ _) (by simp) (λHO=>?_);apply ae;intro K Z;simp(disch:=omega);apply Z;refine aK [] [0,0,0,0,0,0,0,0,0,0,0] [] aw (by kernel_rfl) (by kernel_rfl) λK hK=>?_;simp(disch:=omega)[a1,hi,dD];refine aD (cd _ _) rfl ?_;simp(disch:=omega) ;refine aD (cw _ _) rfl ?_;simp(disch:=omega) ;apply hK;apply az;simp(disch:=omega) 
def FC (l:List (List Int)):List Int:=l.foldl FL []
attribute [-simp] getD_eq_getElem?_getD in
def NU (l:List (List Int))(hl:l.length<=400)(hd:∀d∈l,d.length<=1000)(hs:∀k,k<=l.length->(FC (l.take k)).length<=1000)(H:List aA)(T:au)(tg:Tag) :
  ar prog 78 [.sl l.length (fL l) tg] H T (Is (Cm (FC l)) H T):=by
 refine ar.cF ?_;refine ar.bZ ?_ (by simp);refine ah 9 [] Tryz.ntmps78 Tryz.func78 rfl (λ_ _=>Tryz.call78 _ _) (by simp) (λHO=>?_);apply ae;intro K Z;simp(disch:=omega);apply Z;apply ae;intro K Z;simp(disch:=omega);apply Z;refine af λK1 aP=>?_;apply ae;intro K Z;simp(disch:=omega);apply Z;apply aj;refine aJ (X:=Nat) (λk=>⟨[(3,Cm (FC (l.take k))),(6,.sl l.length (fL l) .none),(7,.int .i64 (l.length:Nat)),(8,.int .i64 (k:Nat))],H,T⟩) (λk=>k<=l.length) (λk=>l.length-k) 0 ?_ ?_ ?_
 ·exact agP _
 ·refine ag [] [] ?_ ?_ ?_ ?_ HO ?_
  all_goals simp[FC]
 ·intro k gO;apply ae;intro K Z;simp(disch:=omega);apply Z;refine af λK2 bp=>?_;refine aU rfl (λhk=>?_) (λhk=>?_)
  ·simp  at hk;have a1:=oD l k hk;have cr:=λH T=>Nt (FC (l.take k)) (l.getD k []) (hs k gO) (hd _ (aT l k [] hk)) H T .none .none;have e:FC (l.take (k+1))=FL (FC (l.take k)) (l.getD k []):=by
    unfold FC;rw[aV l k [] hk,ail];rfl
   rw[show comb (λ_ _=>true) (FC (l.take k)) (l.getD k [])=FC (l.take (k+1)) from e.symm] at cr;clear e;generalize FC (l.take k)=x at *;generalize hy:FC (l.take (k+1))=y at *;generalize l.getD k []=d at *;apply aq;apply bp;clear bp;refine af λK3 bG=>?_;apply aj;refine ae λK hK=>?_;simp(disch:=omega)[a1,hk,bF];apply hK;refine aC λK hK=>?_;simp(disch:=omega) ;refine ak (cr _ _) ?_;simp(disch:=omega) ;apply hK;apply bG;clear bG;refine aC λK hK=>?_;simp(disch:=omega) ;apply hK;refine⟨k+1,by show k+1<=_;omega,by show l.length-(k+1)<l.length-k;omega,?_⟩;refine ag [] [] ?_ ?_ ?_ ?_ HO ?_
   all_goals simp[hy]
  ·simp  at hk;have:k=l.length:=by omega
   subst this;rw[agZ];apply aG;simp(disch:=omega) ;apply aP;clear aP;apply ae;intro K Z;simp(disch:=omega);apply Z;apply az;simp(disch:=omega) 
attribute [-simp] getD_eq_getElem?_getD in
theorem HI (l:List Sg)(hl:l.length<=1000)(H:List aA)(T:au)(tg:Tag) :
  ar prog 131 [.sl l.length (fD l) tg] H T (Is (.sl l.length (fD l) (.own T.length)) H (T++[(l.length*3,3)])):=by
 refine ar.cF ?_
 cases l with
 |nil=>
  show ar prog _ [.sl 0 [] .none] H T (Is (.sl 0 [] (.own T.length)) H (T++[(0,3)]));refine ah 3 [] Tryz.ntmps131 Tryz.func131 rfl (λ_ _=>Tryz.call131 _ _) (by simp) (λHO=>?_);apply ae;intro K Z;simp(disch:=omega);apply Z;refine af λK1 aP=>?_;refine ae λK hK=>?_;simp(disch:=omega) 
  constructor
  ·apply hK;apply aF rfl;apply aq;simp(disch:=omega) ;apply aP;clear aP;refine ae λK hK=>?_;simp(disch:=omega)[dj];apply hK;apply az;simp(disch:=omega) ;exact⟨rfl,rfl,rfl⟩
  ·apply hK;apply aH rfl;apply ae;intro K Z;simp(disch:=omega);apply Z;refine mX 2 0 3 [] (by omega) (by simp) ?_;apply az;simp(disch:=omega) ;exact⟨rfl,rfl,rfl⟩
 |cons x r=>
  have h0:x::r≠[]:=by simp
  generalize x::r=l at *;have eO:0<l.length:=ahN.2 h0;have hlen:=dD l;have hd:¬fD l=[]:=λe=>by rw[e] at hlen;simp at hlen;omega
  refine ah 3 [] Tryz.ntmps131 Tryz.func131 rfl (λ_ _=>Tryz.call131 _ _) (by simp) (λHO=>?_);apply ae;intro K Z;simp(disch:=omega);apply Z;refine af λK1 aP=>?_;refine ae λK hK=>?_;simp(disch:=omega) ;refine⟨?_,λhe=>absurd he (by first|exact h0|exact hd)⟩;apply hK;apply aF rfl;apply aq;simp(disch:=omega) ;apply aP;clear aP;refine ae λK hK=>?_;simp(disch:=omega)[dj,dD,eO];apply hK;apply az;simp(disch:=omega) ;exact⟨rfl,rfl,rfl⟩
attribute [-simp] getD_eq_getElem?_getD in
theorem HK (D:List (List Int))(hl:D.length<=1000)(H:List aA)(T:au)(tg:Tag) :
  ar prog 121 [.sl D.length (fL D) tg] H T (Is (.sl D.length (fL D) (.own T.length)) H (T++[(D.length,1)])):=by
 refine ar.cF ?_
 cases D with
 |nil=>
  show ar prog _ [.sl 0 [] .none] H T (Is (.sl 0 [] (.own T.length)) H (T++[(0,1)]));refine ah 3 [] Tryz.ntmps121 Tryz.func121 rfl (λ_ _=>Tryz.call121 _ _) (by simp) (λHO=>?_);apply ae;intro K Z;simp(disch:=omega);apply Z;refine af λK1 aP=>?_;refine ae λK hK=>?_;simp(disch:=omega) 
  constructor
  ·apply hK;apply aF rfl;apply aq;simp(disch:=omega) ;apply aP;clear aP;refine ae λK hK=>?_;simp(disch:=omega)[dj];apply hK;apply az;simp(disch:=omega) ;exact⟨rfl,rfl,rfl⟩
  ·apply hK;apply aH rfl;apply ae;intro K Z;simp(disch:=omega);apply Z;refine mX 2 0 1 [] (by omega) (by simp) ?_;apply az;simp(disch:=omega) ;exact⟨rfl,rfl,rfl⟩
 |cons x r=>
  have h0:x::r≠[]:=by simp
  generalize x::r=D at *;have eO:0<D.length:=ahN.2 h0;have hlen:=bF D;have hd:¬fL D=[]:=λe=>by rw[e] at hlen;simp at hlen;omega
  refine ah 3 [] Tryz.ntmps121 Tryz.func121 rfl (λ_ _=>Tryz.call121 _ _) (by simp) (λHO=>?_);apply ae;intro K Z;simp(disch:=omega);apply Z;refine af λK1 aP=>?_;refine ae λK hK=>?_;simp(disch:=omega) ;refine⟨?_,λhe=>absurd he (by first|exact h0|exact hd)⟩;apply hK;apply aF rfl;apply aq;simp(disch:=omega) ;apply aP;clear aP;refine ae λK hK=>?_;simp(disch:=omega)[dj,bF,eO];apply hK;apply az;simp(disch:=omega) ;exact⟨rfl,rfl,rfl⟩
attribute [-simp] getD_eq_getElem?_getD in
def HJ (D:List (List Int))(h0:D≠[])(hl:D.length<=1000)(H:List aA)(T:au)(tg:Tag) :
  ar prog 121 [.sl D.length (fL D) tg] H T (λr H' T'=>T'=T/\∃k,H'=H++[.cells (fL D++List.replicate k .top)]/\r=.cN H.length 0 D.length):=by
 refine ar.cF ?_;have eO:0<D.length:=ahN.2 h0;have dN:¬D=[]:=h0;have hlen:=bF D;have hd:¬fL D=[]:=λe=>by rw[e] at hlen;simp at hlen;omega
 refine ah 3 [7] Tryz.ntmps121 Tryz.func121 rfl (λ_ _=>Tryz.call121 _ _) (by simp) (λHO=>?_);apply ae;intro K Z;simp(disch:=omega);apply Z;refine af λK1 aP=>?_;refine ae λK hK=>?_;simp(disch:=omega) ;refine⟨?_,λhe=>absurd he (by first|exact dN|exact hd)⟩;apply hK;apply aF rfl;apply aq;simp(disch:=omega) ;apply aP;clear aP;refine ae λK hK=>?_;simp(disch:=omega)[dj,bF,eO];intro k;apply hK;apply az;simp(disch:=omega) 
def BC {n0 t0:Nat}{H:List aA}{cs rq:List AV}(h:rq=cs.map cK)(hb:aM n0 t0 rq):∀(j:Nat)(hj:j<rq.length),fU n0 t0 H (cs.getD j .top) (rq[j]'hj):=λj hj=>by
 subst h;have bQ:j<cs.length:=by simpa using hj
 refine .keep (.inr ?_) (hb _ (ahb hj));rw[ahv,agB,agD bQ];rfl
def xh (l:List Sg):(fD l).map cK=fD l:=by
 unfold fD;rw[List.map_flatMap]
 congr 1
def Em (l:List (List Int)):(fL l).map cK=fL l:=by
 unfold fL;rw[ahG]
 congr 1
def one (s:Sg):List Sg:=if s.aB=[] then [] else [s]
def zA (s:Sg):List (List Int):=if s.aB=[] then [] else [[]]
def Jz (S:List Sg)(i j:Nat)(s:Sg):List Sg:=S.take i++one s++S.drop j
def JA (D:List (List Int))(i j:Nat)(s:Sg):List (List Int):=D.take i++zA s++D.drop j
theorem vh (S : List Sg) (D : List (List Int)) (i j : Nat) (s : Sg) (hz : Ym S D) (XZ : S.length = D.length) (jz : i <= j) (hj : j <= S.length) (FR : s.aB.length <= 1000) (H : List aA) (T : au) :
    ar prog 70 [A4 S D, .int .i64 (i : Nat), .int .i64 (j : Nat), jM s] H T (Is (A4 (Jz S i j s) (JA D i j s)) H T) := by
  refine ar.pf ?_;show ar prog _ _ H T (BQ H T _);have hn := hz.n;have UY : i <= S.length := by omega
  have uV : i <= D.length := by omega
  have hjD : j <= D.length := by omega
  have hti : (S.take i).length = i := by rw [ag5]; omega
  have MO : (D.take i).length = i := by rw [ag5]; omega
  have hdS : (S.drop j).length = S.length - j := ahp;have hdD : (D.drop j).length = D.length - j := ahp;refine ah 10 [] Tryz.ntmps70 Tryz.func70 rfl (λ_ _ => Tryz.call70 _ _) (by simp) (λHO => ?_);refine ae λK hK => ?_; simp (disch := omega) [-getD_eq_getElem?_getD]; refine hK _ ?_; clear hK K;refine Wq ⟨[(2, .int .i64 (j : Nat)), (4, .ptr H.length 0), (7, .ptr (H.length + 1) 0), (8, .ptr (H.length + 2) 0), (9, .ptr (H.length + 3) 0)],
    H ++ [.cells (iv S D), .cells (dA s), .cells [.sl 0 [] .full, .sl 0 [] .full], .cells [.sl i (fD (S.take i)) (.own T.length), .sl i (fL (D.take i)) (.own (T.length + 1))]], T ++ [(i * 3, 3), (i, 1)]⟩ ?_ ?_
  rotate_left
  · intro aeh K hK;have c1 := λH T => HI (S.take i) (by omega) H T .full;have c2 := λH T => HK (D.take i) (by omega) H T .full;rw [hti] at c1;rw [MO] at c2;refine Mf K 13 [5, 11] [0, 0, 0, 0, 0, 0, 0, 0, 0, 0, 0, 1, 2, 0] [[], []] aw (by kernel_rfl) (by kernel_rfl) (by kernel_rfl) ?_;generalize hKK : ie _ _ K _ = KK;generalize hKR : Ni _ _ _ _ _ _ = KR;simp (disch := omega) [-getD_eq_getElem?_getD, dD, IC, UY];refine nX (c1 _ _) rfl ?_; simp (disch := omega) [-getD_eq_getElem?_getD, bF, I6, UY, uV];refine nX (c2 _ _) rfl ?_; simp (disch := omega) [-getD_eq_getElem?_getD];subst hKR;show _ = none /\ ∃ z d, _ = some d /\ d < _ /\ (∀ e' T', dL _ _ e' _ T' (.ptr _ 0) (_ ++ [z]) T') /\ CU _ _ /\ Yc _ (_ ++ [z]) _ _ _ 0 /\ KK ⟨lN _ d _, _ ++ [z], _⟩;refine ⟨rfl, .cells [.sl 0 [] .full, .sl 0 [] .full], 9, rfl, (by show 9 < 55; omega), λe' T' => ?_, ⟨rfl, rfl, rfl, trivial⟩, ?_, ?_⟩
    · simp (disch := omega) [-getD_eq_getElem?_getD, dL]
    · simp (disch := omega) [-getD_eq_getElem?_getD, dL, dD, IC, UY, bF, I6, uV];exact ⟨c1 _ _, by have := c2 (H ++ [.cells (iv S D), .cells (dA s), .cells [.sl 0 [] .full, .sl 0 [] .full], .cells [.sl 0 [] .full, .sl 0 [] .full]]) (T ++ [(i * 3, 3)])
                                                                                                   simpa using this⟩
    · subst hKK;simp (disch := omega) [-getD_eq_getElem?_getD];refine hK _ (dy λho => aI ⟨[(2, .int .i64 (j : Nat)), (4, .ptr H.length 0), (7, .ptr (H.length + 1) 0), (8, .ptr (H.length + 2) 0), (9, .ptr (H.length + 3) 0)], _, _⟩ (ag [] [] ?_ ?_ ?_ ?_ ho ?_) aeh)
      all_goals simp
  · refine af λK1 aP => ?_;have eS : (fD (S.drop j)).take ((S.length - j) * 3) = fD (S.drop j) := aih (by rw [dD, hdS]; exact agE _);have eD : (fL (D.drop j)).take (D.length - j) = fL (D.drop j) := aih (by rw [bF, hdD]; exact agE _);have key : ∀ (A : List Sg) (B : List (List Int)) (n : Nat) (e : Env), A = S.take i ++ one s -> B = D.take i ++ zA s -> n = A.length -> n = B.length -> n <= 401 ->
        bC (H.length + 4) (T.length + 2) e [(2, .int .i64 (j : Nat)), (4, .ptr H.length 0), (8, .ptr (H.length + 2) 0), (9, .ptr (H.length + 3) 0)] ->
        K1 ⟨e, H ++ [.cells (iv S D), .cells (dA s), .cells [.sl 0 [] .full, .sl 0 [] .full], .cells [.sl n (fD A) (.own T.length), .sl n (fL B) (.own (T.length + 1))]], T ++ [(n * 3, 3), (n, 1)]⟩ := by
      intro A B n e hA hB AP zd Cf he;have lA : (fD A).length = n * 3 := by rw [dD, <- AP]
      have lB : (fL B).length = n := by rw [bF, <- zd]
      have rS : Jz S i j s = A ++ S.drop j := by unfold Jz; rw [hA]
      have rD : JA D i j s = B ++ D.drop j := by unfold JA; rw [hB]
      have lrS : (Jz S i j s).length = n + (S.length - j) := by rw [rS, agF, <- AP, hdS]
      have lrD : (JA D i j s).length = n + (D.length - j) := by rw [rD, agF, <- zd, hdD]
      refine aP _ (dy λho => aI ⟨[(2, .int .i64 (j : Nat)), (4, .ptr H.length 0), (8, .ptr (H.length + 2) 0), (9, .ptr (H.length + 3) 0)], _, _⟩ (ag [] [] (by simp) (by simp) (by simp) (by simp) ho (by simpa using he)) ?_);refine aK [6, 13, 15, 17] [0, 0, 0, 0, 0, 0, 0, 0, 0, 0, 0, 0, 0, 1, 1, 2, 3, 3] [[], [], [], []] aw (by kernel_rfl) (by kernel_rfl) λK hK => ?_; simp (disch := omega) [-getD_eq_getElem?_getD, dD, Kt, bF, LX, hj, hjD, lA, lB, eS, eD];refine hK _ ?_; clear hK K;refine ae λK hK => ?_; simp (disch := omega) [-getD_eq_getElem?_getD]; refine hK _ ?_; clear hK K;apply az; simp (disch := omega) [-getD_eq_getElem?_getD];refine ⟨⟨_, rfl⟩, ⟨_, rfl⟩, ?_⟩;unfold A4 iv;rw [lrS, lrD, rS, rD, <- OF, <- PY];refine fU.agg rfl λjj XP => ?_
      match jj, XP with
      | 0, _ => exact fU.sl rfl (BC (by rw [agS, xh, xh]) (by simp))
      | 1, _ => exact fU.sl rfl (BC (by rw [agS, Em, Em]) (by simp))
    by_cases hs : s.aB = []
    · have b1 : decide ((0 : Int) < (s.aB.length : Int)) = false := agI (by rw [hs]; simp);have b2 : ¬ 0 < s.aB.length := by rw [hs]; simp
      refine ae λK hK => ?_; simp (disch := omega) [-getD_eq_getElem?_getD, b1, b2]; refine hK _ ?_; clear hK K;apply aF rfl;apply aq;refine key (S.take i) (D.take i) i _ ?_ ?_ hti.symm MO.symm (by omega) ?_
      · unfold one; rw [agN hs, ag2]
      · unfold zA; rw [agN hs, ag2]
      · simp
    · have hp := ahN.2 hs;have b1 : decide ((0 : Int) < (s.aB.length : Int)) = true := agH (by omega);have b2 : 0 < s.aB.length := hp;have lA := dD (S.take i);have lB := bF (D.take i);rw [hti] at lA;rw [MO] at lB;refine ae λK hK => ?_; simp (disch := omega) [-getD_eq_getElem?_getD, b1, b2]; refine hK _ ?_; clear hK K;apply aH rfl;refine cT [4, 8, 10, 12] [0, 0, 0, 0, 0, 0, 0, 0, 1, 1, 2, 3, 3] [[], [], [], []] aw (by kernel_rfl) (by kernel_rfl) λK hK => ?_; simp (disch := omega) [-getD_eq_getElem?_getD, lA, lB];refine hK _ ?_; clear hK K;have := λe => key (S.take i ++ [s]) (D.take i ++ [[]]) (i + 1) e (by unfold one; rw [agL hs]) (by unfold zA; rw [agL hs]) (by rw [agF, hti]; rfl) (by rw [agF, MO]; rfl) (by omega);rw [<- Ks, <- LW] at this;refine this _ ?_;simp
def OO (L:List Dc):br (rv L)=one (eu L):=by
 have h:(eu L).aB=[]↔L=[]:=by show L.map (·.id)=[]↔_;simp
 unfold rv one
 by_cases hL:L=[]
 ·rw[agN hL,agN (h.2 hL)];rfl
 ·rw[agL hL,agL (λx=>hL (h.1 x))];rfl
def OQ (L:List Dc):cj (rv L)=zA (eu L):=by
 have h:(eu L).aB=[]↔L=[]:=by show L.map (·.id)=[]↔_;simp
 unfold rv zA
 by_cases hL:L=[]
 ·rw[agN hL,agN (h.2 hL)];rfl
 ·rw[agL hL,agL (λx=>hL (h.1 x))];rfl
def ur (x:List Sd)(i j:Nat)(L:List Dc):br (gI x i j L)=Jz (br x) i j (eu L):=by
 unfold Jz gI;rw[<-OO];unfold br;rw[agS,agS,List.map_take,List.map_drop]
def uu (x:List Sd)(i j:Nat)(L:List Dc):cj (gI x i j L)=JA (cj x) i j (eu L):=by
 unfold JA gI;rw[<-OQ];unfold cj;rw[agS,agS,List.map_take,List.map_drop]
theorem Ec {p:Nat->Bool}:∀(n i:Nat),i<n->p i=true->(∀j,i<j->j<n->p j=false)->(List.range n).reverse.find? p=some i
 |0,i,h,_,_=>absurd h (ag9 _)
 |n+1,i,h,hp,hb=>by
  rw[ajb,List.reverse_append,List.reverse_singleton,List.singleton_append,List.find?_cons]
  by_cases e:i=n
  ·subst e;rw[hp]
  ·rw[hb n (by omega) (by omega)];exact Ec n i (by omega) hp λj h1 h2=>hb j h1 (by omega)
def OD {x:List Sd}{i:Nat}(hi:i<x.length)(h:rG x i=true)(hb:∀j,j<i->rG x j=false):iE x=some (gI x i (i+1) (iy (x.getD i e0))):=by
 have:(List.range x.length).find? (rG x)=some i:=List.find?_range_eq_some.2 ⟨h,ag3.2 hi,λj hj=>by rw[hb j hj];rfl⟩;unfold iE;rw[this]
def NX {x:List Sd}(hb:∀j,j<x.length->rG x j=false):(List.range x.length).find? (rG x)=none:=ahT.2 λj hj=>by rw[hb j (ag3.1 hj)];simp
def Kq {x:List Sd}(hb:∀j,j<x.length->rG x j=false){i:Nat}(hi:i+1<x.length)(h:qW x i=true)(hn:∀j,i<j->j+1<x.length->qW x j=false):iE x=some (gI x i (i+2) (both x i)):=by
 unfold iE;rw[NX hb];simp only;rw[Ec (x.length-1) i (by omega) h λj h1 h2=>hn j h1 (by omega)];rfl
def Kp {x:List Sd}(hb:∀j,j<x.length->rG x j=false)(hn:∀j,j+1<x.length->qW x j=false):iE x=none:=by
 unfold iE;rw[NX hb];simp only;rw[ahT.2 λj hj=>by rw[hn j (by have:=ag3.1 (ai8.1 hj);omega)];simp];rfl
theorem Kk:∀(k:Nat) {x:List Sd},GX x->dW x<=k->gg k x=gg (dW x) x:=by
 intro k
 induction k using Nat.strongRecOn with
 |_ k ih=>
  intro x hg hk
  cases hs:iE x with
  |none=>
   have:∀m,gg m x=x:=λm=>by
    cases m with
    |zero=>rfl
    |succ m=>unfold gg;rw[hs]
   rw[this,this]
  |some y=>
   obtain⟨h1,_,h3⟩:=jS hg hs;have:∀m,m<=k->dW x<=m->gg m x=gg (dW y) y:=λm hm hx=>by
    cases m with
    |zero=>omega
    |succ m=>
     show (match iE x with
      |none=>x
      |some y=>gg m y)=_
     rw[hs];exact ih m (by omega) h1 (by omega)
   rw[this k (agE _) hk,this _ hk (agE _)]
def zO {x y:List Sd}(hg:GX x)(hs:iE x=some y):gg (dW y) y=gg (dW x) x:=by
 obtain⟨h1,_,h3⟩:=jS hg hs;obtain⟨k,hk⟩:∃k,dW x=k+1:=⟨dW x-1,by omega⟩
 rw[hk]
 conv=>rhs;unfold gg
 rw[hs];exact(Kk k h1 (by omega)).symm
theorem Kj {x:List Sd}(hs:iE x=none)(k:Nat):gg k x=x:=by
 cases k with
 |zero=>rfl
 |succ m=>unfold gg;rw[hs]
def Dy {x:List Sd}{i j:Nat}(L:List Dc)(jz:i<j)(hj:j<=x.length):(gI x i j L).length<=x.length:=by
 unfold gI rv;rw[agF,agF,ag5,ahp]
 split<;>simp<;>omega
def SF {x:List Sd}(h:GX x){i:Nat}(hi:i+1<x.length):jO (eu (iy (x.getD i e0))) (eu (iy (x.getD (i+1) e0)))=(eu (both x i),0):=by
 have hn:=xY h hi;have hl:=(wm h hi).n;refine Pq (sC h (fY (by omega))) (sC h (fY hi)) (wm h hi) (λd=>?_) (λa ha b hb e=>?_) ?_
 ·unfold both;rw[eQ,agR]
 ·rw[agS] at hn;exact(ahn.1 hn).2.2 a.id (agG.2 ⟨a,ha,rfl⟩) b.id (agG.2 ⟨b,hb,rfl⟩) e
 ·unfold both at hl;rw[dV,agF] at hl;exact hl
def BX.TC {m:Nat}{x:List Sd}(h:BX m x)(hl:x.length<=400):Ym (br x) (cj x):=by
 refine⟨by rw[fw];exact hl,λs hs=>?_,by rw[l0];exact hl,λd hd=>?_⟩
 ·obtain⟨p,hp,rfl⟩:=agG.1 hs;exact h.sz hp
 ·obtain⟨p,hp,rfl⟩:=agG.1 hd;have h1:=ka (h.g.da p hp) (h.g.dd p hp);have h2:=(h.b p hp).1;omega
def ON {x:List Sd}{i:Nat}(hi:i<x.length)(d:List Int):br (x.set i ((x.getD i e0).1,d))=br x:=by
 unfold br;rw[List.map_set];apply aiw ;intro k;rw[aji]
 split
 ·rename_i h;subst h;rw[agN (by rw[agU];exact hi),ahJ,agD hi,agB,agD hi];rfl
 ·rfl
def OP {x:List Sd}{i:Nat}(L:List Dc)(d:List Int):cj (x.set i (L,d))=(cj x).set i d:=by unfold cj;rw[List.map_set]
def SR {x:List Sd}{id:Int}{i:Nat}(hi:i<x.length)(h:po (x.getD i e0) id=true)(hb:∀j,j<i->po (x.getD j e0) id=false):cW x id=(x.set i ((x.getD i e0).1,FN (x.getD i e0).2 id),true):=by
 have:(List.range x.length).find? (λi=>po (x.getD i e0) id)=some i:=List.find?_range_eq_some.2 ⟨h,ag3.2 hi,λj hj=>by rw[hb j hj];rfl⟩;unfold cW;rw[this]
def Lz {x:List Sd}{id:Int}(hb:∀j,j<x.length->po (x.getD j e0) id=false):cW x id=(x,false):=by
 have:(List.range x.length).find? (λi=>po (x.getD i e0) id)=none:=ahT.2 λj hj=>by rw[hb j (ag3.1 hj)];simp
 unfold cW;rw[this]
attribute [-simp] getD_eq_getElem?_getD in
theorem IQ {x:List Sd}(hg:GX x)(hz:Ym (br x) (cj x))(id:Int)(H:List aA)(T:au) :
  ar prog 67 [yp x,.int .i64 id] H T (Is (.df [yp (cW x id).1,.bool (cW x id).2]) H T):=by
 refine ar.pf ?_;show ar prog _ _ H T (BQ H T _);have hn:=hz.n;have FD:=fw x;have mN:=l0 x;refine ah 11 [] Tryz.ntmps67 Tryz.func67 rfl (λ_ _=>Tryz.call67 _ _) (by simp) (λHO=>?_);apply ae;intro K Z;simp(disch:=omega);apply Z;have eV:bN (H++[.cells (iv (br x) (cj x)),.cells [.sl 0 [] .full,.sl 0 [] .full]]) T:=by
  have:=(HO.snoc (vs:=iv (br x) (cj x)) (by simp)).snoc (vs:=[.sl 0 [] .full,.sl 0 [] .full]) (by simp);simpa using this
 refine af λK1 aP=>?_;apply ae;intro K Z;simp(disch:=omega);apply Z;apply aj;refine aJ (X:=Nat) (λi=>⟨[(1,.int .i64 id),(2,.ptr H.length 0),(4,.ptr (H.length+1) 0),(9,.int .i64 ((br x).length:Nat)),(10,.int .i64 (i:Nat))],H++[.cells (iv (br x) (cj x)),.cells [.sl 0 [] .full,.sl 0 [] .full]],T⟩)
  (λi=>i<=x.length/\∀j,j<i->po (x.getD j e0) id=false) (λi=>x.length-i) 0 ?_ ?_ ?_
 ·exact⟨agP _,λj hj=>absurd hj (ag9 _)⟩
 ·refine ag [] [] ?_ ?_ ?_ ?_ eV ?_
  all_goals simp
 ·rintro i ⟨g1,g2⟩;apply ae;intro K Z;simp(disch:=omega);apply Z;refine af λK2 bp=>?_;refine aU rfl (λhk=>?_) (λhk=>?_)
  ·simp  at hk;have hi:i<x.length:=by omega
   have hp:=fY hi;have cl:=λH T=>wc (br x) (cj x) i hk hz H T;rw[fx hi,gn hi,wW,oC hg hp] at cl;have cc:=λH T=>pZ ((iy (x.getD i e0)).map (·.id)) id (by rw[agU];have:=sM (x.getD i e0);have:=(hg.vd _ hp).n;exact agJ (by omega:_<=2000) (by decide)) H T .none;have ZB:=hz.l (x.getD i e0).2 (by unfold cj;exact agG.2 ⟨_,hp,rfl⟩);have cr:=λH T=>Nt (x.getD i e0).2 [id] ZB (by simp) H T .none .full;have d1:=oD (cj x) i (by omega);rw[gn hi] at d1;have Zx:=λh=>SR hi h g2;have hh:po (x.getD i e0) id=decide (id∈(iy (x.getD i e0)).map (·.id)):=rfl;have eor:comb (λ_ _=>true) (x.getD i e0).2 [id]=FN (x.getD i e0).2 id:=rfl;rw[eor] at cr;have cn:=λH T=>HJ (cj x) (λh=>by rw[h] at mN;simp at mN;omega) (by omega) H T .none;apply aq;simp(disch:=omega) ;apply bp;clear bp;refine af λK3 bG=>?_;apply aj;apply ae;intro K Z;simp(disch:=omega);apply Z;refine af λK4 lG=>?_
   cases hc:po (x.getD i e0) id with
   |false=>
    rw[<-hh,hc] at cc;refine ae λK hK=>?_;simp(disch:=omega) ;refine ak (cl _ _) ?_;simp(disch:=omega) ;refine ak (cc _ _) ?_;simp(disch:=omega) ;apply hK;apply aH rfl;apply aG;simp(disch:=omega) ;apply bG;clear bG;refine aC λK hK=>?_;simp(disch:=omega) ;apply hK;refine⟨i+1,⟨by show i+1<=_;omega,λj hj=>?_⟩,by show x.length-(i+1)<x.length-i;omega,?_⟩
    ·rcases agM j i with h1|h1
     ·exact g2 j h1
     ·have:j=i:=by omega
      subst this;exact hc
    ·refine ag [] [] ?_ ?_ ?_ ?_ eV ?_
     all_goals simp
   |true=>
    rw[<-hh,hc] at cc;have e1:=ON hi (FN (x.getD i e0).2 id);have e2:=OP (x:=x) (i:=i) (x.getD i e0).1 (FN (x.getD i e0).2 id);refine ae λK hK=>?_;simp(disch:=omega) ;refine ak (cl _ _) ?_;simp(disch:=omega) ;refine ak (cc _ _) ?_;simp(disch:=omega) ;apply hK;apply aF rfl;apply aq;simp(disch:=omega) ;apply lG;clear lG;refine ae λK hK=>?_;simp(disch:=omega) ;refine⟨_,cn _ _,?_⟩;rintro r' H' T' ⟨rfl,k,rfl,rfl⟩;simp(disch:=omega) ;apply hK;have d2:(fL (cj x)++List.replicate k AV.top).getD i .top=Cm (x.getD i e0).2:=by
     rw[agB,agK (by rw[bF];omega),<-getD_eq_getElem?_getD];exact d1
    refine aK [12] [0,0,0,0,0,0,0,0,0,0,0,0,0] [[]] aw (by kernel_rfl) (by kernel_rfl) λK hK=>?_;simp(disch:=omega)[d2,hi,mN,bF];refine aD (cr _ _) rfl ?_;simp(disch:=omega)[bF,mN,show i+1<=x.length+k by omega];apply hK;apply ae;intro K Z;simp(disch:=omega);apply Z;apply az;simp(disch:=omega) ;have es:(fL (cj x)++List.replicate k AV.top).set i (Cm (FN (x.getD i e0).2 id))=fL ((cj x).set i (FN (x.getD i e0).2 id))++List.replicate k AV.top:=by
     rw[List.set_append_left _ _ (by rw[bF];omega),PW]
    have ln:x.length=((cj x).set i (FN (x.getD i e0).2 id)).length:=by rw[ahY,mN]
    rw[Zx hc,es];refine⟨⟨_,rfl⟩,⟨[],(ag2 _).symm⟩,fU.pair ?_ (fU.same (.bool _))⟩;unfold yp A4 iv;simp only;rw[e1,e2,<-ln];refine fU.agg rfl λjj XP=>?_
    match jj,XP with
    |0,_=>exact fU.sl rfl (BC (xh _).symm (by simp))
    |1,_=>exact fU.M5 (Nat.le_add_right _ _) (by simp;rfl) (by simp)
  ·simp  at hk;have:i=x.length:=by omega
   subst this;apply aG;simp(disch:=omega) ;apply aP;clear aP;apply ae;intro K Z;simp(disch:=omega);apply Z;apply az;simp(disch:=omega) ;rw[Lz g2];exact⟨⟨_,rfl⟩,⟨[],(ag2 _).symm⟩,by
    have hb:Below H.length T.length (.df [yp x,.bool false]):=by simp
    exact fU.same hb⟩
attribute [-simp] getD_eq_getElem?_getD in
theorem Ka (S:List Sg)(D:List (List Int))(hz:Ym S D)(fh:∀i,i<=S.length->(oj S D i).length<=1000)(XM:∀i,i<S.length->(Mq (S.getD i bV) (D.getD i [])).length<=1000)(H:List aA)(T:au) :
  ar prog 17 [A4 S D] H T (Is (.bool (mW S D)) H T):=by
 refine ar.bZ ?_ (by simp);have hn:=hz.n;refine ah 19 [] Tryz.ntmps17 Tryz.func17 rfl (λ_ _=>Tryz.call17 _ _) (by simp) (λHO=>?_);apply ae;intro K Z;simp(disch:=omega);apply Z;have eV:bN (H++[.cells (iv S D)]) T:=HO.snoc (by simp);refine af λK1 aP=>?_
 by_cases XZ:S.length=D.length
 rotate_left
 ·have e:mW S D=false:=by unfold mW;rw[agI XZ];rfl
  have b1:((S.length:Int)==(D.length:Int))=false:=by
   simp only[ahq,ne_eq];omega
  refine ae λK hK=>?_;simp(disch:=omega)[b1,XZ];apply hK;refine aU rfl (λh=>?_) (λh=>absurd h (by simp;omega));apply ae;intro K Z;simp(disch:=omega);apply Z;apply az;simp(disch:=omega) ;rw[e]
 have eS:mW S D=((List.range S.length).all (Qk S D)&&decide ((oj S D S.length).length<=2000)):=by unfold mW;rw[agH XZ,ahM]
 have b1:((S.length:Int)==(D.length:Int))=true:=by
  simp only[aiu];omega
 refine ae λK hK=>?_;simp(disch:=omega)[b1,XZ];apply hK;apply aF rfl;apply aq;simp(disch:=omega) ;apply aP;clear aP;apply ae;intro K Z;simp(disch:=omega);apply Z;refine af λK1 aP=>?_;apply ae;intro K Z;simp(disch:=omega);apply Z;apply aj;refine aJ (X:=Nat) (λi=>⟨[(1,.ptr H.length 0),(3,Cm (oj S D i)),(16,.sl S.length (fD S) .none),(17,.int .i64 (S.length:Nat)),(18,.int .i64 (i:Nat))],H++[.cells (iv S D)],T⟩)
  (λi=>i<=S.length/\∀j,j<i->Qk S D j=true) (λi=>S.length-i) 0 ?_ ?_ ?_
 ·exact⟨agP _,λj hj=>absurd hj (ag9 _)⟩
 ·refine ag [] [] ?_ ?_ ?_ ?_ eV ?_
  all_goals simp[oj]
 ·rintro i ⟨g1,g2⟩;apply ae;intro K Z;simp(disch:=omega);apply Z;refine af λK2 bp=>?_;refine aU rfl (λhk=>?_) (λhk=>?_)
  ·simp  at hk;have bu:=j7 S i hk;have hp:=λh=>(Bn S (i-1) h).1;have d1:=oD D i (by omega);have gu:=hz.s _ (aT S i bV hk);have mN:(D.getD i []).length<=1000:=hz.l _ (aT D i [] (by omega));have uV:i<D.length:=by omega
   have cv:=λH T=>jQ (S.getD i bV) gu H T;have cd:=λH T=>iu (D.getD i []) (agJ mN (by decide)) H T .none;have cw:=λH T=>oG (D.getD i []) (S.getD i bV).aB mN gu.d H T .none .none;have cl:=λH T=>wc S D i hk hz H T;have ca:=λH T=>Ol (oj S D i) (Mq (S.getD i bV) (D.getD i [])) (fh i g1) (XM i hk) H T .none .none;have co:=λH T=>Nt (oj S D i) (Mq (S.getD i bV) (D.getD i [])) (fh i g1) (XM i hk) H T .none .none;have ek:Qk S D i=(((aY (S.getD i bV)&&decide ((S.getD i bV).aB≠[]))&&decide (i=0\/2*(S.getD i bV).aB.length<=(S.getD (i-1) bV).aB.length)) &&
    ((oX (D.getD i []) 1 1000000000&&decide (comb (λ_ q=>!q) (D.getD i []) (S.getD i bV).aB=[]))&&decide (2*(D.getD i []).length<=(S.getD i bV).aB.length)) &&
    decide (comb (λp q=>p&&q) (oj S D i) (Mq (S.getD i bV) (D.getD i []))=[])):=rfl
   have ea:comb (λ_ _=>true) (oj S D i) (Mq (S.getD i bV) (D.getD i []))=oj S D (i+1):=rfl;rw[ea] at co;have bad:Qk S D i=false->mW S D=false:=λh=>by rw[eS,mI hk h];rfl
   have wI:Qk S D i=true->∀j,j<i+1->Qk S D j=true:=λh j hj=>by
    rcases agM j i with h1|h1
    ·exact g2 j h1
    ·have:j=i:=by omega
     subst this;exact h
   have zb:i≠0->(S.getD (i-1) bV).aB.length<=1000:=λh=>(hz.s _ (aT S (i-1) bV (by omega))).d;have sa:=tr (λ_ q=>!q) (D.getD i []) (S.getD i bV).aB;have uW:=tr (λp q=>p&&q) (oj S D i) (Mq (S.getD i bV) (D.getD i []));have Cv:=XM i hk;have hai:=fh i g1;have FR:=gu.d;generalize S.getD (i-1) bV=pv at *;generalize S.getD i bV=s at *;generalize D.getD i []=d at *;generalize lF:oj S D (i+1)=nx at *;generalize oj S D i=al at *;generalize Mq s d=lv at *;generalize comb (λp q=>p&&q) al lv=an at *;generalize comb (λ_ q=>!q) d s.aB=wi at *;apply aq;simp(disch:=omega) ;apply bp;clear bp;refine af λK3 bG=>?_;apply aj;refine ae λK hK=>?_;simp(disch:=omega)[bu,hk,dD];apply hK;apply ae;intro K Z;simp(disch:=omega);apply Z;have fj:bN (H++[.cells (iv S D),.cells (dA s)]) T:=by
    have:=eV.snoc (vs:=dA s) (by simp);simpa using this
   refine af λK4 lG=>?_;refine ae λK hK=>?_;have A3:∀e,Qk S D i=false->bC (H.length+2) T.length e [(49,.bool true)]->K ⟨e,H++[.cells (iv S D),.cells (dA s)],T⟩:=by
    intro e hb he;refine hK _ (aI ⟨[(49,.bool true)],H++[.cells (iv S D),.cells (dA s)],T⟩ (ag [] [] (by simp) (by simp) (by simp) (by simp) fj (by simpa using he)) ?_);apply aH rfl;apply ae;intro K Z;simp(disch:=omega);apply Z;apply az;simp(disch:=omega) ;rw[bad hb]
   have T9:∀e,aY s=true->s.aB≠[]->(i=0\/2*s.aB.length<=pv.aB.length)->bC (H.length+2) T.length e [(1,.ptr H.length 0),(3,Cm al),(4,.int .i64 (i:Nat)),(5,.ptr (H.length+1) 0),(6,.int .i64 (s.aB.length:Nat)),(16,.sl S.length (fD S) .none),(17,.int .i64 (S.length:Nat)),(18,.int .i64 (i:Nat)),(49,.bool false)]->K ⟨e,H++[.cells (iv S D),.cells (dA s)],T⟩:=by
    intro e t1 t2 t3 he;refine hK _ (aI ⟨[(1,.ptr H.length 0),(3,Cm al),(4,.int .i64 (i:Nat)),(5,.ptr (H.length+1) 0),(6,.int .i64 (s.aB.length:Nat)),(16,.sl S.length (fD S) .none),(17,.int .i64 (S.length:Nat)),(18,.int .i64 (i:Nat)),(49,.bool false)],H++[.cells (iv S D),.cells (dA s)],T⟩ (ag [] [] (by simp) (by simp) (by simp) (by simp) fj (by simpa using he)) ?_);clear hK A3 he;rw[t1,agH t2,agH t3] at ek;simp only[ahM] at ek;apply aF rfl;apply aq;simp(disch:=omega) ;apply lG;clear lG;refine af λK4 lG=>?_;refine aK [] [0,0,0,0,0,0,0,0,0,0,0,0,0,0,0,0,0,0,0,0,0,0,0,0,0,0,0,0,0,0] [] aw (by kernel_rfl) (by kernel_rfl) λK hK=>?_;have A3:∀e,Qk S D i=false->bC (H.length+2) T.length e [(79,.bool true)]->K ⟨e,H++[.cells (iv S D),.cells (dA s)],T⟩:=by
     intro e hb he;refine hK _ (aI ⟨[(79,.bool true)],H++[.cells (iv S D),.cells (dA s)],T⟩ (ag [] [] (by simp) (by simp) (by simp) (by simp) fj (by simpa using he)) ?_);apply aH rfl;apply ae;intro K Z;simp(disch:=omega);apply Z;apply az;simp(disch:=omega) ;rw[bad hb]
    cases hv:oX d 1 1000000000 with
    |false=>
     rw[hv] at cd ek;simp(disch:=omega)[d1,uV,bF];refine aD (cd _ _) rfl ?_;simp(disch:=omega)[d1,uV,bF];refine A3 _ (by rw[ek];rfl) ?_;simp
    |true=>
    rw[hv] at cd ek;simp only[ahM] at ek
    by_cases hw:wi=[]
    rotate_left
    ·have hwp:0<wi.length:=ahN.2 hw;have bw:decide ((0:Int)<(wi.length:Int))=true:=agH (by omega);simp(disch:=omega)[d1,uV,bF];refine aD (cd _ _) rfl ?_;simp(disch:=omega)[d1,uV,bF];refine aD (cw _ _) rfl ?_;simp(disch:=omega)[d1,uV,bF,bw,hwp];refine A3 _ (by rw[ek,agI hw];simp) ?_;simp
    subst hw;rw[agH rfl,ahM] at ek
    by_cases hh:2*d.length<=s.aB.length
    rotate_left
    ·have bh:decide ((s.aB.length:Int)<2*(d.length:Int))=true:=agH (by omega);have bh2:s.aB.length<2*d.length:=by omega
     simp(disch:=omega)[d1,uV,bF];refine aD (cd _ _) rfl ?_;simp(disch:=omega)[d1,uV,bF];refine aD (cw _ _) rfl ?_;simp(disch:=omega)[d1,uV,bF,bh,bh2];refine A3 _ (by rw[ek,agI hh];simp) ?_;simp
    ·have bh:decide ((s.aB.length:Int)<2*(d.length:Int))=false:=agI (by omega);have bh2:¬s.aB.length<2*d.length:=by omega
     rw[agH hh,ahM] at ek;simp(disch:=omega)[d1,uV,bF];refine aD (cd _ _) rfl ?_;simp(disch:=omega)[d1,uV,bF];refine aD (cw _ _) rfl ?_;simp(disch:=omega)[d1,uV,bF,bh,bh2];refine hK _ (aI ⟨[(1,.ptr H.length 0),(3,Cm al),(4,.int .i64 (i:Nat)),(16,.sl S.length (fD S) .none),(17,.int .i64 (S.length:Nat)),(18,.int .i64 (i:Nat)),(79,.bool false)],H++[.cells (iv S D)],T⟩ (ag [.cells (dA s)] [] (by simp) (by simp) (by simp) (by simp) eV (by simp)) ?_);clear hK A3;apply aF rfl;apply aq;simp(disch:=omega) ;apply lG;clear lG;refine ae λK hK=>?_;simp(disch:=omega) ;refine ak (cl _ _) ?_;simp(disch:=omega) ;apply hK;refine af λK4 lG=>?_
     by_cases hx:an=[]
     ·subst hx;rw[agH rfl] at ek;refine ae λK hK=>?_;simp(disch:=omega) ;refine ak (ca _ _) ?_;simp(disch:=omega) ;apply hK;apply aF rfl;apply aq;simp(disch:=omega) ;apply lG;clear lG;refine aC λK hK=>?_;simp(disch:=omega) ;refine ak (co _ _) ?_;simp(disch:=omega) ;apply hK;apply bG;clear bG;refine aC λK hK=>?_;simp(disch:=omega) ;apply hK;refine⟨i+1,⟨by show i+1<=_;omega,wI ek⟩,by show S.length-(i+1)<S.length-i;omega,?_⟩;refine ag [] [] ?_ ?_ ?_ ?_ eV ?_
      all_goals simp[lF]
     ·have hxp:0<an.length:=ahN.2 hx;have bx:decide ((0:Int)<(an.length:Int))=true:=agH (by omega);refine ae λK hK=>?_;simp(disch:=omega) ;refine ak (ca _ _) ?_;simp(disch:=omega)[bx,hxp];apply hK;apply aH rfl;apply ae;intro K Z;simp(disch:=omega);apply Z;apply az;simp(disch:=omega) ;rw[bad (by rw[ek,agI hx])]
   cases hv:aY s with
   |false=>
    rw[hv] at cv;simp(disch:=omega) ;refine ak (cv _ _) ?_;simp(disch:=omega) ;refine A3 _ (by rw[ek,hv];rfl) ?_;simp
   |true=>
   rw[hv] at cv
   by_cases h0:s.aB=[]
   ·have b0:decide ((s.aB.length:Int)<1)=true:=agH (by rw[h0];simp);have Yh:s.aB.length<1:=by rw[h0];simp
    simp(disch:=omega) ;refine ak (cv _ _) ?_;simp(disch:=omega)[b0,Yh];refine A3 _ (by rw[ek,hv,agI (λx=>x h0)];rfl) ?_;simp
   have eO:=ahN.2 h0;have b0:decide ((s.aB.length:Int)<1)=false:=agI (by omega);have Yh:¬s.aB.length<1:=by omega
   by_cases Qy:i=0
   ·have b3:decide ((0:Int)<(i:Int))=false:=agI (by omega);simp(disch:=omega) ;refine ak (cv _ _) ?_;simp(disch:=omega)[b0,Yh,b3,Qy];refine T9 _ hv h0 (.inl Qy) ?_;simp[Qy]
   ·have hp:=hp (by omega);have zb:=zb Qy;have b3:decide ((0:Int)<(i:Int))=true:=agH (by omega);have b33:0<i:=by omega
    have ei:(i:Int)-1=((i-1:Nat):Int):=by omega
    have MT:i-1<S.length:=by omega
    by_cases hh:2*s.aB.length<=pv.aB.length
    ·have b4:decide ((pv.aB.length:Int)<2*(s.aB.length:Int))=false:=agI (by omega);have b44:¬pv.aB.length<2*s.aB.length:=by omega
     simp(disch:=omega) ;refine ak (cv _ _) ?_;simp(disch:=omega)[b0,Yh,b3,b33,ei,hp,MT,b4,b44,dD];refine T9 _ hv h0 (.inr hh) ?_;simp
    ·have b4:decide ((pv.aB.length:Int)<2*(s.aB.length:Int))=true:=agH (by omega);have b44:pv.aB.length<2*s.aB.length:=by omega
     simp(disch:=omega) ;refine ak (cv _ _) ?_;simp(disch:=omega)[b0,Yh,b3,b33,ei,hp,MT,b4,b44,dD];refine A3 _ (by rw[ek,hv,agH h0,agI (λx=>x.elim Qy hh)];rfl) ?_;simp
  ·simp  at hk;have:i=S.length:=by omega
   subst this;have hai:=fh _ (agE _);have eA:mW S D=decide ((oj S D S.length).length<=2000):=by rw[eS,iJ g2];rfl
   rw[agH (by omega)] at eA;generalize oj S D S.length=al at *;have b9:decide ((al.length:Int)<=2000)=true:=agH (by omega);have b99:al.length<=2000:=by omega
   apply aG;simp(disch:=omega) ;apply aP;clear aP;refine ae λK hK=>?_;simp(disch:=omega)[b9,b99];apply hK;apply az;simp(disch:=omega) ;exact eA
def mr (x:List Sd)(i:Nat):(alive (x.take i)).length<=(alive x).length:=by
 conv=>rhs;rw[<-List.take_append_drop i x,dq,agF]
 omega
def uK {x:List Sd}(hg:GX x){i:Nat}(hi:i<=x.length):(jI x i).length<=(alive x).length:=by
 rw[pQ hg i hi,agU];unfold fl;rw[dV];exact mr x i
def uz {x:List Sd}(hg:GX x){p:Sd}(hp:p∈x):(jD p).length<=(alive x).length:=by
 rw[oC hg hp,agU];exact oJ hp
def BX.ju {m:Nat}{x:List Sd}(h:BX m x)(ht:Gi x)(hl:x.length<=400)(H:List aA)(T:au):ar prog 17 [yp x] H T (Is (.bool true) H T):=by
 have hg:=h.g;have ha:=h.a;rw[<-Iy hg ht];refine Ka (br x) (cj x) (h.TC hl) (λi hi=>?_) (λi hi=>?_) H T
 ·rw[fw] at hi;rw[wx hg i hi,agU];unfold fl;rw[dV];have:=mr x i;omega
 ·rw[fw] at hi;rw[fx hi,gn hi,wW];have:=uz hg (fY hi);omega
attribute [-simp] getD_eq_getElem?_getD in
theorem PU {m:Nat}{x:List Sd}(h:BX m x)(hl:x.length<=400)(H:List aA)(T:au):ar prog 27 [yp x] H T (Is (Cm (jI x x.length)) H T):=by
 refine ar.bZ ?_ (by simp);have hg:=h.g;have ha:=h.a;have hz:=h.TC hl;have FD:=fw x;refine ah 9 [] Tryz.ntmps27 Tryz.func27 rfl (λ_ _=>Tryz.call27 _ _) (by simp) (λHO=>?_);apply ae;intro K Z;simp(disch:=omega);apply Z;have eV:bN (H++[.cells (iv (br x) (cj x))]) T:=HO.snoc (by simp);apply ae;intro K Z;simp(disch:=omega);apply Z;refine af λK1 aP=>?_;apply ae;intro K Z;simp(disch:=omega);apply Z;apply aj;refine aJ (X:=Nat) (λi=>⟨[(1,.ptr H.length 0),(3,Cm (jI x i)),(7,.int .i64 ((br x).length:Nat)),(8,.int .i64 (i:Nat))],H++[.cells (iv (br x) (cj x))],T⟩) (λi=>i<=x.length) (λi=>x.length-i) 0 ?_ ?_ ?_
 ·exact agP _
 ·refine ag [] [] ?_ ?_ ?_ ?_ eV ?_
  all_goals simp[jI]
 ·intro i g1;apply ae;intro K Z;simp(disch:=omega);apply Z;refine af λK2 bp=>?_;refine aU rfl (λhk=>?_) (λhk=>?_)
  ·simp  at hk;have hi:i<x.length:=by omega
   have hp:=fY hi;have cl:=λH T=>wc (br x) (cj x) i hk hz H T;rw[fx hi,gn hi,wW] at cl;have l1:=uK hg g1;have l2:=uK hg (show i+1<=x.length from hi);have l3:=uz hg hp;have e1:FL [] (jI x i)=jI x i:=by rw[pQ hg i g1];exact sK (nE (gF (ig hg i)))
   have co:=λH T=>NU [jI x i,jD (x.getD i e0)] (by simp) (λd hd=>by
    rcases ag6.1 hd with rfl|h1
    ·omega
    ·rw[ahl.1 h1];omega) (λk hk=>by
    match k with
    |0=>simp[FC]
    |1=>show (FL [] (jI x i)).length<=1000;rw[e1];omega
    |k+2=>rw[aih (by simp)];show (jI x (i+1)).length<=1000;omega) H T .full
   rw[show FC [jI x i,jD (x.getD i e0)]=jI x (i+1) from rfl] at co;generalize lF:jI x (i+1)=nx at *;generalize jI x i=q at *;generalize jD (x.getD i e0)=lv at *;apply aq;simp(disch:=omega) ;apply bp;clear bp;refine af λK3 bG=>?_;apply aj;apply ae;intro K Z;simp(disch:=omega);apply Z;refine aC λK hK=>?_;simp(disch:=omega) ;refine ak (cl _ _) ?_;simp(disch:=omega) ;refine ak (co _ _) ?_;simp(disch:=omega) ;apply hK;apply bG;clear bG;refine aC λK hK=>?_;simp(disch:=omega) ;apply hK;refine⟨i+1,by show i+1<=_;omega,by show x.length-(i+1)<x.length-i;omega,?_⟩;refine ag [] [] ?_ ?_ ?_ ?_ eV ?_
   all_goals simp[lF]
  ·simp  at hk;have:i=x.length:=by omega
   subst this;apply aG;simp(disch:=omega) ;apply aP;clear aP;apply ae;intro K Z;simp(disch:=omega);apply Z;apply az;simp(disch:=omega) 
def Sp (d:Dc)(k:Ky):(iR d k).length<=(dm d).length:=by
 unfold iR dm;rw[agU,<-qx,agU];exact ahf _ _
theorem nO (L:List Dc)(k:Ky):(dg L k).length<=L.length:=by
 unfold dg
 induction L with
 |nil=>simp
 |cons d L ih=>
  rw[agT,agF,ahd];have:(Co d k).length<=1:=by unfold Co;split<;>simp
  omega
def BX.post {m:Nat}{x:List Sd}(h:BX m x)(hm:m<=1000){L:List Dc}(hL:∀d∈L,∃p∈x,d∈p.1)(k:Ky):∀p∈dg L k,p.2.length<=1000:=by
 intro p hp;obtain⟨d,hd,rfl,_⟩:=eR hp;obtain⟨q,hq,hdq⟩:=hL d hd;have h1:=Sp d k;have h2:=(h.w q hq d hdq).k;show (iR d k).length<=1000;omega
attribute [-simp] getD_eq_getElem?_getD in
def th {m:Nat}{x:List Sd}(h:BX m x)(hm:m<=1000)(hl:x.length<=400)(f:Int)(w:Bs)(H:List aA)(T:au) :
  ar prog 29 [yp x,.int .i64 f,.str w] H T (Is (.sl (eC x (f,w) x.length).length (bD (eC x (f,w) x.length)) .none) H T):=by
 refine ar.bZ ?_ (by simp);have hg:=h.g;have ha:=h.a;have hz:=h.TC hl;have FD:=fw x;refine ah 14 [] Tryz.ntmps29 Tryz.func29 rfl (λ_ _=>Tryz.call29 _ _) (by simp) (λHO=>?_);apply ae;intro K Z;simp(disch:=omega);apply Z;have eV:bN (H++[.cells (iv (br x) (cj x))]) T:=HO.snoc (by simp);apply ae;intro K Z;simp(disch:=omega);apply Z;refine af λK1 aP=>?_;apply ae;intro K Z;simp(disch:=omega);apply Z;apply aj;refine aJ (X:=Nat) (λi=>⟨[(1,.int .i64 f),(2,.str w),(3,.ptr H.length 0),(7,.sl (eC x (f,w) i).length (bD (eC x (f,w) i)) .none),(11,.sl (br x).length (fD (br x)) .none),(12,.int .i64 ((br x).length:Nat)),(13,.int .i64 (i:Nat))],H++[.cells (iv (br x) (cj x))],T⟩) (λi=>i<=x.length) (λi=>x.length-i) 0 ?_ ?_ ?_
 ·exact agP _
 ·refine ag [] [] ?_ ?_ ?_ ?_ eV ?_
  all_goals simp[eC,sX]
 ·intro i g1;apply ae;intro K Z;simp(disch:=omega);apply Z;refine af λK2 bp=>?_;refine aU rfl (λhk=>?_) (λhk=>?_)
  ·simp  at hk;have hi:i<x.length:=by omega
   have hp:=fY hi;have bu:=j7 (br x) i hk;rw[fx hi] at bu;have cl:=λH T=>wc (br x) (cj x) i hk hz H T;rw[fx hi,gn hi,wW] at cl;have cf:=λH T=>PI (eu (x.getD i e0).1) (h.sz hp) f w H T;have hv:=hg.vd _ hp;have hfb:=vp hv.n hv.lt hv.v (f,w);have l3:=uz hg hp;have hb:=h.b _ hp;have f1:(iH (eu (x.getD i e0).1) (f,w)).length<=1000:=by
    rw[hfb];have:=nO (x.getD i e0).1 (f,w);omega
   have f2:∀p∈iH (eu (x.getD i e0).1) (f,w),p.2.length<=1000:=by rw[hfb];exact h.post hm (λd hd=>⟨_,hp,hd⟩) (f,w)
   have co:=λH T=>Su (iH (eu (x.getD i e0).1) (f,w)) (jD (x.getD i e0)) f1 f2 (by omega) H T .none .none;have eo:lR (iH (eu (x.getD i e0).1) (f,w)) (jD (x.getD i e0))=dg (iy (x.getD i e0)) (f,w):=by
    rw[hfb,Ad hv (f,w) (by rw[oC hg hp];exact nE (sC hg hp)),Ag hg hp]
   have o1:(lR (iH (eu (x.getD i e0).1) (f,w)) (jD (x.getD i e0))).length<=1000:=by
    rw[eo];have:=nO (iy (x.getD i e0)) (f,w);have:=oJ hp;omega
   have o2:∀p∈lR (iH (eu (x.getD i e0).1) (f,w)) (jD (x.getD i e0)),p.2.length<=1000:=by rw[eo];exact h.post hm (λd hd=>⟨_,hp,lY hd⟩) (f,w)
   have q1:(eC x (f,w) i).length<=1000:=by
    rw[tj hg (f,w) i g1];have h1:=nO (fl (x.take i)) (f,w);have h2:(fl (x.take i)).length=(alive (x.take i)).length:=dV _;have h3:=mr x i;omega
   have q2:∀p∈eC x (f,w) i,p.2.length<=1000:=by
    rw[tj hg (f,w) i g1];refine h.post hm (λd hd=>?_) (f,w);obtain⟨p,hp,hd⟩:=qi.1 hd;exact⟨p,aiR hp,lY hd⟩
   have cu:=λH T=>Dm (eC x (f,w) i) (lR (iH (eu (x.getD i e0).1) (f,w)) (jD (x.getD i e0))) q1 o1 q2 o2 H T .none .none;rw[show iU (eC x (f,w) i) (lR (iH (eu (x.getD i e0).1) (f,w)) (jD (x.getD i e0)))=eC x (f,w) (i+1) from rfl] at cu;clear eo hfb;generalize lF:eC x (f,w) (i+1)=nx at *;generalize eC x (f,w) i=q at *;generalize lR (iH (eu (x.getD i e0).1) (f,w)) (jD (x.getD i e0))=o at *;generalize iH (eu (x.getD i e0).1) (f,w)=fs at *;generalize jD (x.getD i e0)=lv at *;generalize eu (x.getD i e0).1=s at *;apply aq;simp(disch:=omega) ;apply bp;clear bp;refine af λK3 bG=>?_;apply aj;refine ae λK hK=>?_;simp(disch:=omega)[bu,hk,dD];apply hK;refine cT [] [0,0,0,0,0,0,0,0,0,0,0] [] aw (by kernel_rfl) (by kernel_rfl) λK hK=>?_;simp(disch:=omega) ;refine aD (cf _ _) rfl ?_;simp(disch:=omega) ;refine aD (cl _ _) rfl ?_;simp(disch:=omega) ;refine aD (co _ _) rfl ?_;simp(disch:=omega) ;refine aD (cu _ _) rfl ?_;simp(disch:=omega) ;apply hK;apply bG;clear bG;refine aC λK hK=>?_;simp(disch:=omega) ;apply hK;refine⟨i+1,by show i+1<=_;omega,by show x.length-(i+1)<x.length-i;omega,?_⟩;refine ag [.cells (dA s)] [] ?_ ?_ ?_ ?_ eV ?_
   all_goals simp[lF]
  ·simp  at hk;have:i=x.length:=by omega
   subst this;apply aG;simp(disch:=omega) ;apply aP;clear aP;apply ae;intro K Z;simp(disch:=omega);apply Z;apply az;simp(disch:=omega) 
end Go.Proofs.YtoejlmpbebjemaaGreat
