/- Small functions of the index (layer 40): dead, live, or, Docs. Clones of lists of segments and of lists of lists; segments replaced (layer 40). One step of tidying an index (layer 40, plain). index.kill (layer 40). index.Valid (layer 40). index.Docs, Find, Put and Drop (layer 40).
  Conditions: as the theorems say. -/
import Derived.Test.YtoejlmpbebjemaaGreatXZa
import Derived.Test.YtoejlmpbebjemaaGreatGZy
import Derived.Test.YtoejlmpbebjemaaGreatAmC
set_option linter.all false
set_option maxRecDepth 100000
set_option maxHeartbeats 16000000
open List (getD_eq_getElem?_getD)
namespace Go.Proofs.YtoejlmpbebjemaaGreat
open Go.Proofs.Tryz(prog)
open Go Go.Am ie cN eN
def ES {α:Type}{l:List α}{i:Nat}{d:α}(h:l.length<=i):l.getD i d=d:=by rw[ahs,aiU h];rfl
attribute [-simp] getD_eq_getElem?_getD in
def Cn (S:List Sg)(D:List (List Int))(i:Nat)(hi:i<=1000)(hD:D.length<=400)(H:List aA)(T:au) :
  aq prog 90 [BD S D,.int .i64 (i:Nat)] H T (Is (C0 (D.getD i [])) H T):=by
 refine aq.bK ?_ zS;refine ah 5 [] Tryz.ntmps90 Tryz.func90 rfl (λ_ _=>Tryz.call90 _ _) zS (λHO=>?_);refine af ?_;refine ae λK1 aN=>?_
 by_cases hk:i<D.length
 ·have a1:=oU D i hk;have hn:¬D.length<=i:=zO;have b1:decide ((D.length:Int)<=(i:Int))=false:=ahy zO;apply ar;simp(disch:=omega)[hn,b1];apply aB rfl;apply aj;simp(disch:=omega) ;apply aN;clear aN;apply ar;simp(disch:=omega)[a1,hk,bN];apply bu;simp(disch:=omega) 
 ·have hn:D.length<=i:=zO;have b1:decide ((D.length:Int)<=(i:Int))=true:=ahx zO;have e:D.getD i []=[]:=ES hn;rw[e];apply ar;simp(disch:=omega)[hn,b1];apply aC rfl;refine af ?_;apply bu;simp(disch:=omega) 
attribute [-simp] getD_eq_getElem?_getD in
def wL (S:List Sg)(D:List (List Int))(i:Nat)(hi:i<S.length)(hz:Y9 S D)(H:List aA)(T:au) :
  aq prog 63 [BD S D,.int .i64 (i:Nat)] H T (Is (C0 (M8 (S.getD i bY) (D.getD i []))) H T):=by
 refine aq.bK ?_ zS;have hn:=hz.n;have cd:=λH T=>Cn S D i zO hz.d H T;have zY:(D.getD i []).length<=1000:=by
  by_cases h:i<D.length
  ·exact hz.l _ (aQ D i [] h)
  ·rw[ES zO];simp
 have cw:=λH T=>oX (S.getD i bY).aw (D.getD i []) (hz.s _ (aQ S i bY hi)).d zY H T .none .none;obtain⟨a1,a2,a3⟩:=B1 S i hi;unfold M8;generalize D.getD i []=d at *;generalize S.getD i bY=s at *;refine ah 5 [] Tryz.ntmps63 Tryz.func63 rfl (λ_ _=>Tryz.call63 _ _) zS (λHO=>?_);refine af ?_;refine bC [] [0,0,0,0,0,0,0,0,0,0,0] [] ?_;simp(disch:=omega)[a1,hi,dL];refine az (cd _ _) rfl ?_;refine zQ ?_;refine az (cw _ _) rfl ?_;refine zQ ?_;exact bu zC
def Gg (l:List (List Int)):List Int:=l.foldl Gn []
attribute [-simp] getD_eq_getElem?_getD in
def OF (l:List (List Int))(hl:l.length<=400)(hd:∀d∈l,d.length<=1000)(hs:∀k,k<=l.length->(Gg (l.take k)).length<=1000)(H:List aA)(T:au)(tg:Tag) :
  aq prog 78 [.sl l.length (fT l) tg] H T (Is (C0 (Gg l)) H T):=by
 refine aq.bR ?_;refine aq.bK ?_ zS;refine ah 9 [] Tryz.ntmps78 Tryz.func78 rfl (λ_ _=>Tryz.call78 _ _) zS (λHO=>?_);refine af ?_;refine af ?_;refine ae λK1 aN=>?_;refine af ?_;apply ag;refine aG (X:=Nat) (λk=>⟨[(3,C0 (Gg (l.take k))),(6,.sl l.length (fT l) .none),(7,.int .i64 (l.length:Nat)),(8,.int .i64 (k:Nat))],H,T⟩) (λk=>k<=l.length) (λk=>l.length-k) 0 ?_ ?_ ?_
 ·exact ahE _
 ·refine ak [] [] ?_ ?_ ?_ ?_ HO ?_
  all_goals simp[Gg]
 ·intro k gy;refine af ?_;refine ae λK2 ba=>?_;refine aV rfl (λhk=>?_) (λhk=>?_)
  ·simp  at hk;have a1:=oU l k hk;have cr:=λH T=>Oa (Gg (l.take k)) (l.getD k []) (hs k gy) (hd _ (aQ l k [] hk)) H T .none .none;have e:Gg (l.take (k+1))=Gn (Gg (l.take k)) (l.getD k []):=by
    unfold Gg;rw[aX l k [] hk,ai8];rfl
   rw[show comb (λ_ _=>true) (Gg (l.take k)) (l.getD k [])=Gg (l.take (k+1)) from e.symm] at cr;clear e;generalize Gg (l.take k)=x at *;generalize hy:Gg (l.take (k+1))=y at *;generalize l.getD k []=d at *;apply aj;apply ba;clear ba;refine ae λK3 bH=>?_;apply ag;apply ar;simp(disch:=omega)[a1,hk,bN];refine br λK hK=>?_;refine zQ ?_;refine ai (cr _ _) ?_;refine zQ ?_;apply hK;apply bH;clear bH;refine aJ ?_;refine⟨k+1,by show k+1<=_;omega,by show l.length-(k+1)<l.length-k;omega,?_⟩;refine ak [] [] ?_ ?_ ?_ ?_ HO ?_
   all_goals simp[hy]
  ·simp  at hk;have:k=l.length:=zO;subst this;rw[ahO];apply aD;refine zQ ?_;apply aN;clear aN;refine af ?_;exact bu zC
attribute [-simp] getD_eq_getElem?_getD in
theorem Iq (l:List Sg)(hl:l.length<=1000)(H:List aA)(T:au)(tg:Tag) :
  aq prog 131 [.sl l.length (fK l) tg] H T (Is (.sl l.length (fK l) (.own T.length)) H (T++[(l.length*3,3)])):=by
 refine aq.bR ?_
 cases l with
 |nil=>
  show aq prog _ [.sl 0 [] .none] H T (Is (.sl 0 [] (.own T.length)) H (T++[(0,3)]));refine ah 3 [] Tryz.ntmps131 Tryz.func131 rfl (λ_ _=>Tryz.call131 _ _) zS (λHO=>?_);refine af ?_;refine ae λK1 aN=>?_;refine aK λK hK=>?_;refine zQ ?_
  constructor
  ·apply hK;apply aB rfl;apply aj;refine zQ ?_;apply aN;clear aN;refine aK λK hK=>?_;simp(disch:=omega)[dx];apply hK;refine aI ?_;exact⟨rfl,rfl,rfl⟩
  ·apply hK;apply aC rfl;refine af ?_;refine ki 2 0 3 [] zO zS ?_;refine aI ?_;exact⟨rfl,rfl,rfl⟩
 |cons x r=>
  have h0:x::r≠[]:=zS;generalize x::r=l at *;have gu:0<l.length:=aiV.2 h0;have hlen:=dL l;have hd:¬fK l=[]:=λe=>by rw[e] at hlen;simp at hlen;omega
  refine ah 3 [] Tryz.ntmps131 Tryz.func131 rfl (λ_ _=>Tryz.call131 _ _) zS (λHO=>?_);refine af ?_;refine ae λK1 aN=>?_;refine aK λK hK=>?_;refine zQ ?_;refine⟨?_,λhe=>absurd he (by first|exact h0|exact hd)⟩;apply hK;apply aB rfl;apply aj;refine zQ ?_;apply aN;clear aN;refine aK λK hK=>?_;simp(disch:=omega)[dx,dL,gu];apply hK;refine aI ?_;exact⟨rfl,rfl,rfl⟩
attribute [-simp] getD_eq_getElem?_getD in
theorem It (D:List (List Int))(hl:D.length<=1000)(H:List aA)(T:au)(tg:Tag) :
  aq prog 121 [.sl D.length (fT D) tg] H T (Is (.sl D.length (fT D) (.own T.length)) H (T++[(D.length,1)])):=by
 refine aq.bR ?_
 cases D with
 |nil=>
  show aq prog _ [.sl 0 [] .none] H T (Is (.sl 0 [] (.own T.length)) H (T++[(0,1)]));refine ah 3 [] Tryz.ntmps121 Tryz.func121 rfl (λ_ _=>Tryz.call121 _ _) zS (λHO=>?_);refine af ?_;refine ae λK1 aN=>?_;refine aK λK hK=>?_;refine zQ ?_
  constructor
  ·apply hK;apply aB rfl;apply aj;refine zQ ?_;apply aN;clear aN;refine aK λK hK=>?_;simp(disch:=omega)[dx];apply hK;refine aI ?_;exact⟨rfl,rfl,rfl⟩
  ·apply hK;apply aC rfl;refine af ?_;refine ki 2 0 1 [] zO zS ?_;refine aI ?_;exact⟨rfl,rfl,rfl⟩
 |cons x r=>
  have h0:x::r≠[]:=zS;generalize x::r=D at *;have gu:0<D.length:=aiV.2 h0;have hlen:=bN D;have hd:¬fT D=[]:=λe=>by rw[e] at hlen;simp at hlen;omega
  refine ah 3 [] Tryz.ntmps121 Tryz.func121 rfl (λ_ _=>Tryz.call121 _ _) zS (λHO=>?_);refine af ?_;refine ae λK1 aN=>?_;refine aK λK hK=>?_;refine zQ ?_;refine⟨?_,λhe=>absurd he (by first|exact h0|exact hd)⟩;apply hK;apply aB rfl;apply aj;refine zQ ?_;apply aN;clear aN;refine aK λK hK=>?_;simp(disch:=omega)[dx,bN,gu];apply hK;refine aI ?_;exact⟨rfl,rfl,rfl⟩
attribute [-simp] getD_eq_getElem?_getD in
def Ir (D:List (List Int))(h0:D≠[])(hl:D.length<=1000)(H:List aA)(T:au)(tg:Tag) :
  aq prog 121 [.sl D.length (fT D) tg] H T (λr H' T'=>T'=T/\∃k,H'=H++[.cells (fT D++List.replicate k .top)]/\r=.cV H.length 0 D.length):=by
 refine aq.bR ?_;have gu:0<D.length:=aiV.2 h0;have dM:¬D=[]:=h0;have hlen:=bN D;have hd:¬fT D=[]:=λe=>by rw[e] at hlen;simp at hlen;omega
 refine ah 3 [7] Tryz.ntmps121 Tryz.func121 rfl (λ_ _=>Tryz.call121 _ _) zS (λHO=>?_);refine af ?_;refine ae λK1 aN=>?_;apply ar;refine zQ ?_;refine⟨?_,λhe=>absurd he (by first|exact dM|exact hd)⟩;apply aB rfl;apply aj;refine zQ ?_;apply aN;clear aN;apply ar;simp(disch:=omega)[dx,bN,gu];intro k;exact bu zC
def Ch {n0 t0:Nat}{H:List aA}{cs rX:List AV}(h:rX=cs.map cL)(hb:aL n0 t0 rX):∀(j:Nat)(hj:j<rX.length),gp n0 t0 H (cs.getD j .top) (rX[j]'hj):=λj hj=>by
 subst h;have bU:j<cs.length:=by simpa using hj
 refine .keep (.inr ?_) (hb _ (ah2 hj));rw[aip,ahs,ahu bU];rfl
def xL (l:List Sg):(fK l).map cL=fK l:=by
 unfold fK;rw[List.map_flatMap]
 congr 1
def E8 (l:List (List Int)):(fT l).map cL=fT l:=by
 unfold fT;rw[aiA]
 congr 1
def one (s:Sg):List Sg:=if s.aw=[] then [] else [s]
def Af (s:Sg):List (List Int):=if s.aw=[] then [] else [[]]
def Kg (S:List Sg)(i j:Nat)(s:Sg):List Sg:=S.take i++one s++S.drop j
def Kh (D:List (List Int))(i j:Nat)(s:Sg):List (List Int):=D.take i++Af s++D.drop j
theorem vK (S : List Sg) (D : List (List Int)) (i j : Nat) (s : Sg) (hz : Y9 S D) (YM : S.length = D.length) (jV : i <= j) (hj : j <= S.length) (CP : s.aw.length <= 1000) (H : List aA) (T : au) :
    aq prog 70 [BD S D, .int .i64 (i : Nat), .int .i64 (j : Nat), jh s] H T (Is (BD (Kg S i j s) (Kh D i j s)) H T) := by
  refine aq.pF ?_;show aq prog _ _ H T (BQ H T _);have hn := hz.n;have VO : i <= S.length := by omega
  have vv : i <= D.length := by omega
  have hjD : j <= D.length := by omega
  have hti : (S.take i).length = i := by rw [ahW]; omega
  have Nw : (D.take i).length = i := by rw [ahW]; omega
  have hdS : (S.drop j).length = S.length - j := aii;have hdD : (D.drop j).length = D.length - j := aii;refine ah 10 [] Tryz.ntmps70 Tryz.func70 rfl (λ_ _ => Tryz.call70 _ _) (by simp) (λHO => ?_);refine aK λK hK => ?_; simp (disch := omega) [-getD_eq_getElem?_getD]; refine hK _ ?_; clear hK K;refine Xg ⟨[(2, .int .i64 (j : Nat)), (4, .ptr H.length 0), (7, .ptr (H.length + 1) 0), (8, .ptr (H.length + 2) 0), (9, .ptr (H.length + 3) 0)],
    H ++ [.cells (jr S D), .cells (cH s), .cells [.sl 0 [] .full, .sl 0 [] .full], .cells [.sl i (fK (S.take i)) (.own T.length), .sl i (fT (D.take i)) (.own (T.length + 1))]], T ++ [(i * 3, 3), (i, 1)]⟩ ?_ ?_
  rotate_left
  · intro ae6 K hK;have c1 := λH T => Iq (S.take i) (by omega) H T .full;have c2 := λH T => It (D.take i) (by omega) H T .full;rw [hti] at c1;rw [Nw] at c2;refine MY K 13 [5, 11] [0, 0, 0, 0, 0, 0, 0, 0, 0, 0, 0, 1, 2, 0] [[], []] aO (by kernel_rfl) (by kernel_rfl) (by kernel_rfl) ?_;generalize hKK : gP _ _ K _ = KK;generalize hKR : N0 _ _ _ _ _ _ = KR;simp (disch := omega) [-getD_eq_getElem?_getD, dL, Jd, VO];refine oA (c1 _ _) rfl ?_; simp (disch := omega) [-getD_eq_getElem?_getD, bN, JD, VO, vv];refine oA (c2 _ _) rfl ?_; simp (disch := omega) [-getD_eq_getElem?_getD];subst hKR;show _ = none /\ ∃ z d, _ = some d /\ d < _ /\ (∀ e' T', dT _ _ e' _ T' (.ptr _ 0) (_ ++ [z]) T') /\ Dy _ _ /\ YZ _ (_ ++ [z]) _ _ _ 0 /\ KK ⟨mr _ d _, _ ++ [z], _⟩;refine ⟨rfl, .cells [.sl 0 [] .full, .sl 0 [] .full], 9, rfl, (by show 9 < 55; omega), λe' T' => ?_, ⟨rfl, rfl, rfl, trivial⟩, ?_, ?_⟩
    · simp (disch := omega) [-getD_eq_getElem?_getD, dT]
    · simp (disch := omega) [-getD_eq_getElem?_getD, dT, dL, Jd, VO, bN, JD, vv];exact ⟨c1 _ _, by have := c2 (H ++ [.cells (jr S D), .cells (cH s), .cells [.sl 0 [] .full, .sl 0 [] .full], .cells [.sl 0 [] .full, .sl 0 [] .full]]) (T ++ [(i * 3, 3)])
                                                                                                   simpa using this⟩
    · subst hKK;simp (disch := omega) [-getD_eq_getElem?_getD];refine hK _ (dE λho => aF ⟨[(2, .int .i64 (j : Nat)), (4, .ptr H.length 0), (7, .ptr (H.length + 1) 0), (8, .ptr (H.length + 2) 0), (9, .ptr (H.length + 3) 0)], _, _⟩ (ak [] [] ?_ ?_ ?_ ?_ ho ?_) ae6)
      all_goals simp
  · refine ae λK1 aN => ?_;have eS : (fK (S.drop j)).take ((S.length - j) * 3) = fK (S.drop j) := ajh (by rw [dL, hdS]; exact ahv _);have eD : (fT (D.drop j)).take (D.length - j) = fT (D.drop j) := ajh (by rw [bN, hdD]; exact ahv _);have key : ∀ (A : List Sg) (B : List (List Int)) (n : Nat) (e : Env), A = S.take i ++ one s -> B = D.take i ++ Af s -> n = A.length -> n = B.length -> n <= 401 ->
        bA (H.length + 4) (T.length + 2) e [(2, .int .i64 (j : Nat)), (4, .ptr H.length 0), (8, .ptr (H.length + 2) 0), (9, .ptr (H.length + 3) 0)] ->
        K1 ⟨e, H ++ [.cells (jr S D), .cells (cH s), .cells [.sl 0 [] .full, .sl 0 [] .full], .cells [.sl n (fK A) (.own T.length), .sl n (fT B) (.own (T.length + 1))]], T ++ [(n * 3, 3), (n, 1)]⟩ := by
      intro A B n e hA hB Bq zN CR he;have lA : (fK A).length = n * 3 := by rw [dL, <- Bq]
      have lB : (fT B).length = n := by rw [bN, <- zN]
      have rS : Kg S i j s = A ++ S.drop j := by unfold Kg; rw [hA]
      have rD : Kh D i j s = B ++ D.drop j := by unfold Kh; rw [hB]
      have lrS : (Kg S i j s).length = n + (S.length - j) := by rw [rS, ahw, <- Bq, hdS]
      have lrD : (Kh D i j s).length = n + (D.length - j) := by rw [rD, ahw, <- zN, hdD]
      refine aN _ (dE λho => aF ⟨[(2, .int .i64 (j : Nat)), (4, .ptr H.length 0), (8, .ptr (H.length + 2) 0), (9, .ptr (H.length + 3) 0)], _, _⟩ (ak [] [] (by simp) (by simp) (by simp) (by simp) ho (by simpa using he)) ?_);refine cQ [6, 13, 15, 17] [0, 0, 0, 0, 0, 0, 0, 0, 0, 0, 0, 0, 0, 1, 1, 2, 3, 3] [[], [], [], []] aO (by kernel_rfl) (by kernel_rfl) λK hK => ?_; simp (disch := omega) [-getD_eq_getElem?_getD, dL, Le, bN, MF, hj, hjD, lA, lB, eS, eD];refine hK _ ?_; clear hK K;refine aK λK hK => ?_; simp (disch := omega) [-getD_eq_getElem?_getD]; refine hK _ ?_; clear hK K;apply bu; simp (disch := omega) [-getD_eq_getElem?_getD];refine ⟨⟨_, rfl⟩, ⟨_, rfl⟩, ?_⟩;unfold BD jr;rw [lrS, lrD, rS, rD, <- Ph, <- QB];refine gp.agg rfl λjj YD => ?_
      match jj, YD with
      | 0, _ => exact gp.sl rfl (Ch (by rw [ahJ, xL, xL]) (by simp))
      | 1, _ => exact gp.sl rfl (Ch (by rw [ahJ, E8, E8]) (by simp))
    by_cases hs : s.aw = []
    · have b1 : decide ((0 : Int) < (s.aw.length : Int)) = false := ahy (by rw [hs]; simp);have b2 : ¬ 0 < s.aw.length := by rw [hs]; simp
      refine aK λK hK => ?_; simp (disch := omega) [-getD_eq_getElem?_getD, b1, b2]; refine hK _ ?_; clear hK K;apply aB rfl;apply aj;refine key (S.take i) (D.take i) i _ ?_ ?_ hti.symm Nw.symm (by omega) ?_
      · unfold one; rw [ahF hs, ahS]
      · unfold Af; rw [ahF hs, ahS]
      · simp
    · have hp := aiV.2 hs;have b1 : decide ((0 : Int) < (s.aw.length : Int)) = true := ahx (by omega);have b2 : 0 < s.aw.length := hp;have lA := dL (S.take i);have lB := bN (D.take i);rw [hti] at lA;rw [Nw] at lB;refine aK λK hK => ?_; simp (disch := omega) [-getD_eq_getElem?_getD, b1, b2]; refine hK _ ?_; clear hK K;apply aC rfl;refine du [4, 8, 10, 12] [0, 0, 0, 0, 0, 0, 0, 0, 1, 1, 2, 3, 3] [[], [], [], []] aO (by kernel_rfl) (by kernel_rfl) λK hK => ?_; simp (disch := omega) [-getD_eq_getElem?_getD, lA, lB];refine hK _ ?_; clear hK K;have := λe => key (S.take i ++ [s]) (D.take i ++ [[]]) (i + 1) e (by unfold one; rw [ahC hs]) (by unfold Af; rw [ahC hs]) (by rw [ahw, hti]; rfl) (by rw [ahw, Nw]; rfl) (by omega);rw [<- Ld, <- ME] at this;refine this _ ?_;simp
def Pv (L:List Dc):bF (rY L)=one (er L):=by
 have h:(er L).aw=[]↔L=[]:=by show L.map (·.id)=[]↔_;simp
 unfold rY one
 by_cases hL:L=[]
 ·rw[ahF hL,ahF (h.2 hL)];rfl
 ·rw[ahC hL,ahC (λx=>hL (h.1 x))];rfl
def Px (L:List Dc):cI (rY L)=Af (er L):=by
 have h:(er L).aw=[]↔L=[]:=by show L.map (·.id)=[]↔_;simp
 unfold rY Af
 by_cases hL:L=[]
 ·rw[ahF hL,ahF (h.2 hL)];rfl
 ·rw[ahC hL,ahC (λx=>hL (h.1 x))];rfl
def uO (x:List Sd)(i j:Nat)(L:List Dc):bF (gY x i j L)=Kg (bF x) i j (er L):=by
 unfold Kg gY;rw[<-Pv];unfold bF;rw[ahJ,ahJ,List.map_take,List.map_drop]
def uP (x:List Sd)(i j:Nat)(L:List Dc):cI (gY x i j L)=Kh (cI x) i j (er L):=by
 unfold Kh gY;rw[<-Px];unfold cI;rw[ahJ,ahJ,List.map_take,List.map_drop]
theorem EV {p:Nat->Bool}:∀(n i:Nat),i<n->p i=true->(∀j,i<j->j<n->p j=false)->(List.range n).reverse.find? p=some i
 |0,i,h,_,_=>absurd h (ahT _)
 |n+1,i,h,hp,hb=>by
  rw[aj3,List.reverse_append,List.reverse_singleton,List.singleton_append,List.find?_cons]
  by_cases e:i=n
  ·subst e;rw[hp]
  ·rw[hb n zO zO];exact EV n i zO hp λj h1 h2=>hb j h1 zO
def Pf {x:List Sd}{i:Nat}(hi:i<x.length)(h:sb x i=true)(hb:∀j,j<i->sb x j=false):iV x=some (gY x i (i+1) (iP (x.getD i e0))):=by
 have:(List.range x.length).find? (sb x)=some i:=List.find?_range_eq_some.2 ⟨h,ahV.2 hi,λj hj=>by rw[hb j hj];rfl⟩;unfold iV;rw[this]
def OI {x:List Sd}(hb:∀j,j<x.length->sb x j=false):(List.range x.length).find? (sb x)=none:=aiJ.2 λj hj=>by rw[hb j (ahV.1 hj)];simp
def Lb {x:List Sd}(hb:∀j,j<x.length->sb x j=false){i:Nat}(hi:i+1<x.length)(h:rL x i=true)(hn:∀j,i<j->j+1<x.length->rL x j=false):iV x=some (gY x i (i+2) (both x i)):=by
 unfold iV;rw[OI hb];simp only;rw[EV (x.length-1) i zO h λj h1 h2=>hn j h1 zO];rfl
def La {x:List Sd}(hb:∀j,j<x.length->sb x j=false)(hn:∀j,j+1<x.length->rL x j=false):iV x=none:=by
 unfold iV;rw[OI hb];simp only;rw[aiJ.2 λj hj=>by rw[hn j (by have:=ahV.1 (List.mem_reverse.1 hj);omega)];simp];rfl
theorem KY:∀(k:Nat) {x:List Sd},GX x->et x<=k->gE k x=gE (et x) x:=by
 intro k
 induction k using Nat.strongRecOn with
 |_ k ih=>
  intro x hg hk
  cases hs:iV x with
  |none=>
   have:∀m,gE m x=x:=λm=>by
    cases m with
    |zero=>rfl
    |succ m=>unfold gE;rw[hs]
   rw[this,this]
  |some y=>
   obtain⟨h1,_,h3⟩:=ko hg hs;have:∀m,m<=k->et x<=m->gE m x=gE (et y) y:=λm hm hx=>by
    cases m with
    |zero=>omega
    |succ m=>
     show (match iV x with
      |none=>x
      |some y=>gE m y)=_
     rw[hs];exact ih m zO h1 zO
   rw[this k (ahv _) hk,this _ hk (ahv _)]
def Av {x y:List Sd}(hg:GX x)(hs:iV x=some y):gE (et y) y=gE (et x) x:=by
 obtain⟨h1,_,h3⟩:=ko hg hs;obtain⟨k,hk⟩:∃k,et x=k+1:=⟨et x-1,zO⟩
 rw[hk]
 conv=>rhs;unfold gE
 rw[hs];exact(KY k h1 zO).symm
theorem KX {x:List Sd}(hs:iV x=none)(k:Nat):gE k x=x:=by
 cases k with
 |zero=>rfl
 |succ m=>unfold gE;rw[hs]
def Ek {x:List Sd}{i j:Nat}(L:List Dc)(jV:i<j)(hj:j<=x.length):(gY x i j L).length<=x.length:=by
 unfold gY rY;rw[ahw,ahw,ahW,aii]
 split<;>simp<;>omega
def Tz {x:List Sd}(h:GX x){i:Nat}(hi:i+1<x.length):kg (er (iP (x.getD i e0))) (er (iP (x.getD (i+1) e0)))=(er (both x i),0):=by
 have hn:=yA h hi;have hl:=(wR h hi).n;refine P6 (s9 h (gC zO)) (s9 h (gC hi)) (wR h hi) (λd=>?_) (λa ha b hb e=>?_) ?_
 ·unfold both;rw[fw,ahI]
 ·rw[ahJ] at hn;exact(aif.1 hn).2.2 a.id (ahz.2 ⟨a,ha,rfl⟩) b.id (ahz.2 ⟨b,hb,rfl⟩) e
 ·unfold both at hl;rw[dU,ahw] at hl;exact hl
def BX.Uq {m:Nat}{x:List Sd}(h:BX m x)(hl:x.length<=400):Y9 (bF x) (cI x):=by
 refine⟨by rw[fF];exact hl,λs hs=>?_,by rw[mG];exact hl,λd hd=>?_⟩
 ·obtain⟨p,hp,rfl⟩:=ahz.1 hs;exact h.sz hp
 ·obtain⟨p,hp,rfl⟩:=ahz.1 hd;have h1:=kQ (h.g.da p hp) (h.g.dd p hp);have h2:=(h.b p hp).1;omega
def Pu {x:List Sd}{i:Nat}(hi:i<x.length)(d:List Int):bF (x.set i ((x.getD i e0).1,d))=bF x:=by
 unfold bF;rw[List.map_set];apply ajn ;intro k;rw[aj9]
 split
 ·rename_i h;subst h;rw[ahF (by rw[ahL];exact hi),aiD,ahu hi,ahs,ahu hi];rfl
 ·rfl
def Pw {x:List Sd}{i:Nat}(L:List Dc)(d:List Int):cI (x.set i (L,d))=(cI x).set i d:=by unfold cI;rw[List.map_set]
def TM {x:List Sd}{id:Int}{i:Nat}(hi:i<x.length)(h:pP (x.getD i e0) id=true)(hb:∀j,j<i->pP (x.getD j e0) id=false):dg x id=(x.set i ((x.getD i e0).1,Gq (x.getD i e0).2 id),true):=by
 have:(List.range x.length).find? (λi=>pP (x.getD i e0) id)=some i:=List.find?_range_eq_some.2 ⟨h,ahV.2 hi,λj hj=>by rw[hb j hj];rfl⟩;unfold dg;rw[this]
def Mf {x:List Sd}{id:Int}(hb:∀j,j<x.length->pP (x.getD j e0) id=false):dg x id=(x,false):=by
 have:(List.range x.length).find? (λi=>pP (x.getD i e0) id)=none:=aiJ.2 λj hj=>by rw[hb j (ahV.1 hj)];simp
 unfold dg;rw[this]
attribute [-simp] getD_eq_getElem?_getD in
theorem Jp {x:List Sd}(hg:GX x)(hz:Y9 (bF x) (cI x))(id:Int)(H:List aA)(T:au) :
  aq prog 67 [yW x,.int .i64 id] H T (Is (.dn [yW (dg x id).1,.bool (dg x id).2]) H T):=by
 refine aq.pF ?_;show aq prog _ _ H T (BQ H T _);have hn:=hz.n;have yT:=fF x;have kW:=mG x;refine ah 11 [] Tryz.ntmps67 Tryz.func67 rfl (λ_ _=>Tryz.call67 _ _) zS (λHO=>?_);refine af ?_;have eu:bM (H++[.cells (jr (bF x) (cI x)),.cells [.sl 0 [] .full,.sl 0 [] .full]]) T:=by
  have:=(HO.snoc (vs:=jr (bF x) (cI x)) zS).snoc (vs:=[.sl 0 [] .full,.sl 0 [] .full]) zS;simpa using this
 refine ae λK1 aN=>?_;refine af ?_;apply ag;refine aG (X:=Nat) (λi=>⟨[(1,.int .i64 id),(2,.ptr H.length 0),(4,.ptr (H.length+1) 0),(9,.int .i64 ((bF x).length:Nat)),(10,.int .i64 (i:Nat))],H++[.cells (jr (bF x) (cI x)),.cells [.sl 0 [] .full,.sl 0 [] .full]],T⟩)
  (λi=>i<=x.length/\∀j,j<i->pP (x.getD j e0) id=false) (λi=>x.length-i) 0 ?_ ?_ ?_
 ·exact⟨ahE _,λj hj=>absurd hj (ahT _)⟩
 ·exact wk eu
 ·rintro i ⟨g1,g2⟩;refine af ?_;refine ae λK2 ba=>?_;refine aV rfl (λhk=>?_) (λhk=>?_)
  ·simp  at hk;have hi:i<x.length:=zO;have hp:=gC hi;have cl:=λH T=>wL (bF x) (cI x) i hk hz H T;rw[fG hi,gH hi,xy,oT hg hp] at cl;have cc:=λH T=>qA ((iP (x.getD i e0)).map (·.id)) id (by rw[ahL];have:=tu (x.getD i e0);have:=(hg.vd _ hp).n;exact ahA (by omega:_<=2000) zD) H T .none;have aat:=hz.l (x.getD i e0).2 (by unfold cI;exact ahz.2 ⟨_,hp,rfl⟩);have cr:=λH T=>Oa (x.getD i e0).2 [id] aat zS H T .none .full;have d1:=oU (cI x) i zO;rw[gH hi] at d1;have aap:=λh=>TM hi h g2;have hh:pP (x.getD i e0) id=decide (id∈(iP (x.getD i e0)).map (·.id)):=rfl;have eor:comb (λ_ _=>true) (x.getD i e0).2 [id]=Gq (x.getD i e0).2 id:=rfl;rw[eor] at cr;have cn:=λH T=>Ir (cI x) (λh=>by rw[h] at kW;simp at kW;omega) zO H T .none;apply aj;refine zQ ?_;apply ba;clear ba;refine ae λK3 bH=>?_;apply ag;refine af ?_;refine ae λK4 iQ=>?_
   cases hc:pP (x.getD i e0) id with
   |false=>
    rw[<-hh,hc] at cc;apply ar;refine zQ ?_;refine ai (cl _ _) ?_;refine zQ ?_;refine ai (cc _ _) ?_;refine zQ ?_;apply aC rfl;apply aD;refine zQ ?_;apply bH;clear bH;refine aJ ?_;refine⟨i+1,⟨by show i+1<=_;omega,λj hj=>?_⟩,by show x.length-(i+1)<x.length-i;omega,?_⟩
    ·rcases ahD j i with h1|h1
     ·exact g2 j h1
     ·have:j=i:=zO;subst this;exact hc
    ·exact wk eu
   |true=>
    rw[<-hh,hc] at cc;have e1:=Pu hi (Gq (x.getD i e0).2 id);have e2:=Pw (x:=x) (i:=i) (x.getD i e0).1 (Gq (x.getD i e0).2 id);apply ar;refine zQ ?_;refine ai (cl _ _) ?_;refine zQ ?_;refine ai (cc _ _) ?_;refine zQ ?_;apply aB rfl;apply aj;refine zQ ?_;apply iQ;clear iQ;apply ar;refine zQ ?_;refine⟨_,cn _ _,?_⟩;rintro r' H' T' ⟨rfl,k,rfl,rfl⟩;refine zQ ?_;have d2:(fT (cI x)++List.replicate k AV.top).getD i .top=C0 (x.getD i e0).2:=by
     rw[ahs,ahB (by rw[bN];omega),<-getD_eq_getElem?_getD];exact d1
    refine bC [12] [0,0,0,0,0,0,0,0,0,0,0,0,0] [[]] ?_;simp(disch:=omega)[d2,hi,kW,bN];refine az (cr _ _) rfl ?_;simp(disch:=omega)[bN,kW,show i+1<=x.length+k by omega];refine af ?_;refine aI ?_;have es:(fT (cI x)++List.replicate k AV.top).set i (C0 (Gq (x.getD i e0).2 id))=fT ((cI x).set i (Gq (x.getD i e0).2 id))++List.replicate k AV.top:=by
     rw[List.set_append_left _ _ (by rw[bN];omega),QA]
    have ln:x.length=((cI x).set i (Gq (x.getD i e0).2 id)).length:=by rw[aiR,kW]
    rw[aap hc,es];refine⟨⟨_,rfl⟩,⟨[],(ahS _).symm⟩,gp.pair ?_ (gp.same (.bool _))⟩;unfold yW BD jr;simp only;rw[e1,e2,<-ln];refine gp.agg rfl λjj YD=>?_
    match jj,YD with
    |0,_=>exact gp.sl rfl (Ch (xL _).symm zS)
    |1,_=>exact gp.NO (Nat.le_add_right _ _) (by simp;rfl) zS
  ·simp  at hk;have:i=x.length:=zO;subst this;apply aD;refine zQ ?_;apply aN;clear aN;refine af ?_;refine aI ?_;rw[Mf g2];exact⟨⟨_,rfl⟩,⟨[],(ahS _).symm⟩,by
    have hb:Below H.length T.length (.dn [yW x,.bool false]):=zS;exact gp.same hb⟩
attribute [-simp] getD_eq_getElem?_getD in
theorem KS (S:List Sg)(D:List (List Int))(hz:Y9 S D)(fC:∀i,i<=S.length->(oK S D i).length<=1000)(Yz:∀i,i<S.length->(M8 (S.getD i bY) (D.getD i [])).length<=1000)(H:List aA)(T:au) :
  aq prog 17 [BD S D] H T (Is (.bool (nK S D)) H T):=by
 refine aq.bK ?_ zS;have hn:=hz.n;refine ah 19 [] Tryz.ntmps17 Tryz.func17 rfl (λ_ _=>Tryz.call17 _ _) zS (λHO=>?_);refine af ?_;have eu:bM (H++[.cells (jr S D)]) T:=HO.snoc zS;refine ae λK1 aN=>?_
 by_cases YM:S.length=D.length
 rotate_left
 ·have e:nK S D=false:=by unfold nK;rw[ahy YM];rfl
  have b1:((S.length:Int)==(D.length:Int))=false:=by
   simp only[ah8,ne_eq];omega
  apply ar;simp(disch:=omega)[b1,YM];refine aV rfl (λh=>?_) (λh=>absurd h (by simp;omega));refine af ?_;refine aI ?_;rw[e]
 have eS:nK S D=((List.range S.length).all (Q0 S D)&&decide ((oK S D S.length).length<=2000)):=by unfold nK;rw[ahx YM,aio]
 have b1:((S.length:Int)==(D.length:Int))=true:=by
  simp only[ajl];omega
 apply ar;simp(disch:=omega)[b1,YM];apply aB rfl;apply aj;refine zQ ?_;apply aN;clear aN;refine af ?_;refine ae λK1 aN=>?_;refine af ?_;apply ag;refine aG (X:=Nat) (λi=>⟨[(1,.ptr H.length 0),(3,C0 (oK S D i)),(16,.sl S.length (fK S) .none),(17,.int .i64 (S.length:Nat)),(18,.int .i64 (i:Nat))],H++[.cells (jr S D)],T⟩)
  (λi=>i<=S.length/\∀j,j<i->Q0 S D j=true) (λi=>S.length-i) 0 ?_ ?_ ?_
 ·exact⟨ahE _,λj hj=>absurd hj (ahT _)⟩
 ·refine ak [] [] ?_ ?_ ?_ ?_ eu ?_
  all_goals simp[oK]
 ·rintro i ⟨g1,g2⟩;refine af ?_;refine ae λK2 ba=>?_;refine aV rfl (λhk=>?_) (λhk=>?_)
  ·simp  at hk;have bB:=kO S i hk;have hp:=λh=>(B1 S (i-1) h).1;have d1:=oU D i zO;have gj:=hz.s _ (aQ S i bY hk);have kW:(D.getD i []).length<=1000:=hz.l _ (aQ D i [] zO);have vv:i<D.length:=zO;have cv:=λH T=>kj (S.getD i bY) gj H T;have cd:=λH T=>iN (D.getD i []) (ahA kW zD) H T .none;have cw:=λH T=>oX (D.getD i []) (S.getD i bY).aw kW gj.d H T .none .none;have cl:=λH T=>wL S D i hk hz H T;have ca:=λH T=>O2 (oK S D i) (M8 (S.getD i bY) (D.getD i [])) (fC i g1) (Yz i hk) H T .none .none;have co:=λH T=>Oa (oK S D i) (M8 (S.getD i bY) (D.getD i [])) (fC i g1) (Yz i hk) H T .none .none;have ek:Q0 S D i=(((aT (S.getD i bY)&&decide ((S.getD i bY).aw≠[]))&&decide (i=0\/2*(S.getD i bY).aw.length<=(S.getD (i-1) bY).aw.length)) &&
    ((jI (D.getD i []) 1 1000000000&&decide (comb (λ_ q=>!q) (D.getD i []) (S.getD i bY).aw=[]))&&decide (2*(D.getD i []).length<=(S.getD i bY).aw.length)) &&
    decide (comb (λp q=>p&&q) (oK S D i) (M8 (S.getD i bY) (D.getD i []))=[])):=rfl
   have ea:comb (λ_ _=>true) (oK S D i) (M8 (S.getD i bY) (D.getD i []))=oK S D (i+1):=rfl;rw[ea] at co;have bad:Q0 S D i=false->nK S D=false:=λh=>by rw[eS,kG hk h];rfl
   have sT:Q0 S D i=true->∀j,j<i+1->Q0 S D j=true:=λh j hj=>by
    rcases ahD j i with h1|h1
    ·exact g2 j h1
    ·have:j=i:=zO;subst this;exact h
   have zM:i≠0->(S.getD (i-1) bY).aw.length<=1000:=λh=>(hz.s _ (aQ S (i-1) bY zO)).d;have qC:=tS (λ_ q=>!q) (D.getD i []) (S.getD i bY).aw;have ur:=tS (λp q=>p&&q) (oK S D i) (M8 (S.getD i bY) (D.getD i []));have CT:=Yz i hk;have hai:=fC i g1;have CP:=gj.d;generalize S.getD (i-1) bY=pv at *;generalize S.getD i bY=s at *;generalize D.getD i []=d at *;generalize kX:oK S D (i+1)=nx at *;generalize oK S D i=al at *;generalize M8 s d=lv at *;generalize comb (λp q=>p&&q) al lv=an at *;generalize comb (λ_ q=>!q) d s.aw=wi at *;apply aj;refine zQ ?_;apply ba;clear ba;refine ae λK3 bH=>?_;apply ag;apply ar;simp(disch:=omega)[bB,hk,dL];refine af ?_;have eG:bM (H++[.cells (jr S D),.cells (cH s)]) T:=by
    have:=eu.snoc (vs:=cH s) zS;simpa using this
   refine ae λK4 iQ=>?_;refine aK λK hK=>?_;have BC:∀e,Q0 S D i=false->bA (H.length+2) T.length e [(49,.bool true)]->K ⟨e,H++[.cells (jr S D),.cells (cH s)],T⟩:=by
    intro e hb he;refine hK _ (aF ⟨[(49,.bool true)],H++[.cells (jr S D),.cells (cH s)],T⟩ (wk eG (zU he)) ?_);apply aC rfl;refine af ?_;refine aI ?_;rw[bad hb]
   have UO:∀e,aT s=true->s.aw≠[]->(i=0\/2*s.aw.length<=pv.aw.length)->bA (H.length+2) T.length e [(1,.ptr H.length 0),(3,C0 al),(4,.int .i64 (i:Nat)),(5,.ptr (H.length+1) 0),(6,.int .i64 (s.aw.length:Nat)),(16,.sl S.length (fK S) .none),(17,.int .i64 (S.length:Nat)),(18,.int .i64 (i:Nat)),(49,.bool false)]->K ⟨e,H++[.cells (jr S D),.cells (cH s)],T⟩:=by
    intro e t1 t2 t3 he;refine hK _ (aF ⟨[(1,.ptr H.length 0),(3,C0 al),(4,.int .i64 (i:Nat)),(5,.ptr (H.length+1) 0),(6,.int .i64 (s.aw.length:Nat)),(16,.sl S.length (fK S) .none),(17,.int .i64 (S.length:Nat)),(18,.int .i64 (i:Nat)),(49,.bool false)],H++[.cells (jr S D),.cells (cH s)],T⟩ (wk eG (zU he)) ?_);clear hK BC he;rw[t1,ahx t2,ahx t3] at ek;simp only[aio] at ek;apply aB rfl;apply aj;refine zQ ?_;apply iQ;clear iQ;refine ae λK4 iQ=>?_;refine cQ [] [0,0,0,0,0,0,0,0,0,0,0,0,0,0,0,0,0,0,0,0,0,0,0,0,0,0,0,0,0,0] [] aO zK zK λK hK=>?_;have BC:∀e,Q0 S D i=false->bA (H.length+2) T.length e [(79,.bool true)]->K ⟨e,H++[.cells (jr S D),.cells (cH s)],T⟩:=by
     intro e hb he;refine hK _ (aF ⟨[(79,.bool true)],H++[.cells (jr S D),.cells (cH s)],T⟩ (wk eG (zU he)) ?_);apply aC rfl;refine af ?_;refine aI ?_;rw[bad hb]
    cases hv:jI d 1 1000000000 with
    |false=>
     rw[hv] at cd ek;simp(disch:=omega)[d1,vv,bN];refine az (cd _ _) rfl ?_;simp(disch:=omega)[d1,vv,bN];refine BC _ (by rw[ek];rfl) ?_;simp
    |true=>
    rw[hv] at cd ek;simp only[aio] at ek
    by_cases hw:wi=[]
    rotate_left
    ·have hwp:0<wi.length:=aiV.2 hw;have bw:decide ((0:Int)<(wi.length:Int))=true:=ahx zO;simp(disch:=omega)[d1,vv,bN];refine az (cd _ _) rfl ?_;simp(disch:=omega)[d1,vv,bN];refine az (cw _ _) rfl ?_;simp(disch:=omega)[d1,vv,bN,bw,hwp];refine BC _ (by rw[ek,ahy hw];simp) ?_;simp
    subst hw;rw[ahx rfl,aio] at ek
    by_cases hh:2*d.length<=s.aw.length
    rotate_left
    ·have bh:decide ((s.aw.length:Int)<2*(d.length:Int))=true:=ahx zO;have bh2:s.aw.length<2*d.length:=zO;simp(disch:=omega)[d1,vv,bN];refine az (cd _ _) rfl ?_;simp(disch:=omega)[d1,vv,bN];refine az (cw _ _) rfl ?_;simp(disch:=omega)[d1,vv,bN,bh,bh2];refine BC _ (by rw[ek,ahy hh];simp) ?_;simp
    ·have bh:decide ((s.aw.length:Int)<2*(d.length:Int))=false:=ahy zO;have bh2:¬s.aw.length<2*d.length:=zO;rw[ahx hh,aio] at ek;simp(disch:=omega)[d1,vv,bN];refine az (cd _ _) rfl ?_;simp(disch:=omega)[d1,vv,bN];refine az (cw _ _) rfl ?_;simp(disch:=omega)[d1,vv,bN,bh,bh2];refine hK _ (aF ⟨[(1,.ptr H.length 0),(3,C0 al),(4,.int .i64 (i:Nat)),(16,.sl S.length (fK S) .none),(17,.int .i64 (S.length:Nat)),(18,.int .i64 (i:Nat)),(79,.bool false)],H++[.cells (jr S D)],T⟩ (ak [.cells (cH s)] [] zS zS zS zS eu zS) ?_);clear hK BC;apply aB rfl;apply aj;refine zQ ?_;apply iQ;clear iQ;apply ar;refine zQ ?_;refine ai (cl _ _) ?_;refine zQ ?_;refine ae λK4 iQ=>?_
     by_cases hx:an=[]
     ·subst hx;rw[ahx rfl] at ek;apply ar;refine zQ ?_;refine ai (ca _ _) ?_;refine zQ ?_;apply aB rfl;apply aj;refine zQ ?_;apply iQ;clear iQ;refine br λK hK=>?_;refine zQ ?_;refine ai (co _ _) ?_;refine zQ ?_;apply hK;apply bH;clear bH;refine aJ ?_;refine⟨i+1,⟨by show i+1<=_;omega,sT ek⟩,by show S.length-(i+1)<S.length-i;omega,?_⟩;refine ak [] [] ?_ ?_ ?_ ?_ eu ?_
      all_goals simp[kX]
     ·have hxp:0<an.length:=aiV.2 hx;have bx:decide ((0:Int)<(an.length:Int))=true:=ahx zO;apply ar;refine zQ ?_;refine ai (ca _ _) ?_;simp(disch:=omega)[bx,hxp];apply aC rfl;refine af ?_;refine aI ?_;rw[bad (by rw[ek,ahy hx])]
   cases hv:aT s with
   |false=>
    rw[hv] at cv;refine zQ ?_;refine ai (cv _ _) ?_;refine zQ ?_;refine BC _ (by rw[ek,hv];rfl) ?_;simp
   |true=>
   rw[hv] at cv
   by_cases h0:s.aw=[]
   ·have b0:decide ((s.aw.length:Int)<1)=true:=ahx (by rw[h0];simp);have Y4:s.aw.length<1:=by rw[h0];simp
    refine zQ ?_;refine ai (cv _ _) ?_;simp(disch:=omega)[b0,Y4];refine BC _ (by rw[ek,hv,ahy (λx=>x h0)];rfl) ?_;simp
   have gu:=aiV.2 h0;have b0:decide ((s.aw.length:Int)<1)=false:=ahy zO;have Y4:¬s.aw.length<1:=zO
   by_cases Ri:i=0
   ·have b3:decide ((0:Int)<(i:Int))=false:=ahy zO;refine zQ ?_;refine ai (cv _ _) ?_;simp(disch:=omega)[b0,Y4,b3,Ri];refine UO _ hv h0 (.inl Ri) ?_;simp[Ri]
   ·have hp:=hp zO;have zM:=zM Ri;have b3:decide ((0:Int)<(i:Int))=true:=ahx zO;have b33:0<i:=zO;have ei:(i:Int)-1=((i-1:Nat):Int):=zO;have NA:i-1<S.length:=zO
    by_cases hh:2*s.aw.length<=pv.aw.length
    ·have b4:decide ((pv.aw.length:Int)<2*(s.aw.length:Int))=false:=ahy zO;have b44:¬pv.aw.length<2*s.aw.length:=zO;refine zQ ?_;refine ai (cv _ _) ?_;simp(disch:=omega)[b0,Y4,b3,b33,ei,hp,NA,b4,b44,dL];refine UO _ hv h0 (.inr hh) ?_;simp
    ·have b4:decide ((pv.aw.length:Int)<2*(s.aw.length:Int))=true:=ahx zO;have b44:pv.aw.length<2*s.aw.length:=zO;refine zQ ?_;refine ai (cv _ _) ?_;simp(disch:=omega)[b0,Y4,b3,b33,ei,hp,NA,b4,b44,dL];refine BC _ (by rw[ek,hv,ahx h0,ahy (λx=>x.elim Ri hh)];rfl) ?_;simp
  ·simp  at hk;have:i=S.length:=zO;subst this;have hai:=fC _ (ahv _);have eA:nK S D=decide ((oK S D S.length).length<=2000):=by rw[eS,gJ g2];rfl
   rw[ahx zO] at eA;generalize oK S D S.length=al at *;have b9:decide ((al.length:Int)<=2000)=true:=ahx zO;have b99:al.length<=2000:=zO;apply aD;refine zQ ?_;apply aN;clear aN;apply ar;simp(disch:=omega)[b9,b99];refine aI ?_;exact eA
def mU (x:List Sd)(i:Nat):(alive (x.take i)).length<=(alive x).length:=by
 conv=>rhs;rw[<-List.take_append_drop i x,dA,ahw]
 omega
def va {x:List Sd}(hg:GX x){i:Nat}(hi:i<=x.length):(j7 x i).length<=(alive x).length:=by
 rw[qm hg i hi,ahL];unfold fM;rw[dU];exact mU x i
def uT {x:List Sd}(hg:GX x){p:Sd}(hp:p∈x):(j0 p).length<=(alive x).length:=by
 rw[oT hg hp,ahL];exact o4 hp
def BX.jP {m:Nat}{x:List Sd}(h:BX m x)(ht:GV x)(hl:x.length<=400)(H:List aA)(T:au):aq prog 17 [yW x] H T (Is (.bool true) H T):=by
 have hg:=h.g;have ha:=h.a;rw[<-I8 hg ht];refine KS (bF x) (cI x) (h.Uq hl) (λi hi=>?_) (λi hi=>?_) H T
 ·rw[fF] at hi;rw[wU hg i hi,ahL];unfold fM;rw[dU];have:=mU x i;omega
 ·rw[fF] at hi;rw[fG hi,gH hi,xy];have:=uT hg (gC hi);omega
attribute [-simp] getD_eq_getElem?_getD in
theorem Qy {m:Nat}{x:List Sd}(h:BX m x)(hl:x.length<=400)(H:List aA)(T:au):aq prog 27 [yW x] H T (Is (C0 (j7 x x.length)) H T):=by
 refine aq.bK ?_ zS;have hg:=h.g;have ha:=h.a;have hz:=h.Uq hl;have yT:=fF x;refine ah 9 [] Tryz.ntmps27 Tryz.func27 rfl (λ_ _=>Tryz.call27 _ _) zS (λHO=>?_);refine af ?_;have eu:bM (H++[.cells (jr (bF x) (cI x))]) T:=HO.snoc zS;refine af ?_;refine ae λK1 aN=>?_;refine af ?_;apply ag;refine aG (X:=Nat) (λi=>⟨[(1,.ptr H.length 0),(3,C0 (j7 x i)),(7,.int .i64 ((bF x).length:Nat)),(8,.int .i64 (i:Nat))],H++[.cells (jr (bF x) (cI x))],T⟩) (λi=>i<=x.length) (λi=>x.length-i) 0 ?_ ?_ ?_
 ·exact ahE _
 ·refine ak [] [] ?_ ?_ ?_ ?_ eu ?_
  all_goals simp[j7]
 ·intro i g1;refine af ?_;refine ae λK2 ba=>?_;refine aV rfl (λhk=>?_) (λhk=>?_)
  ·simp  at hk;have hi:i<x.length:=zO;have hp:=gC hi;have cl:=λH T=>wL (bF x) (cI x) i hk hz H T;rw[fG hi,gH hi,xy] at cl;have l1:=va hg g1;have l2:=va hg (show i+1<=x.length from hi);have l3:=uT hg hp;have e1:Gn [] (j7 x i)=j7 x i:=by rw[qm hg i g1];exact tr (nZ (gT (iG hg i)))
   have co:=λH T=>OF [j7 x i,j0 (x.getD i e0)] zS (λd hd=>by
    rcases ah4.1 hd with rfl|h1
    ·omega
    ·rw[aic.1 h1];omega) (λk hk=>by
    match k with
    |0=>simp[Gg]
    |1=>show (Gn [] (j7 x i)).length<=1000;rw[e1];omega
    |k+2=>rw[ajh zS];show (j7 x (i+1)).length<=1000;omega) H T .full
   rw[show Gg [j7 x i,j0 (x.getD i e0)]=j7 x (i+1) from rfl] at co;generalize kX:j7 x (i+1)=nx at *;generalize j7 x i=q at *;generalize j0 (x.getD i e0)=lv at *;apply aj;refine zQ ?_;apply ba;clear ba;refine ae λK3 bH=>?_;apply ag;refine af ?_;refine br λK hK=>?_;refine zQ ?_;refine ai (cl _ _) ?_;refine zQ ?_;refine ai (co _ _) ?_;refine zQ ?_;apply hK;apply bH;clear bH;refine aJ ?_;refine⟨i+1,by show i+1<=_;omega,by show x.length-(i+1)<x.length-i;omega,?_⟩;refine ak [] [] ?_ ?_ ?_ ?_ eu ?_
   all_goals simp[kX]
  ·simp  at hk;have:i=x.length:=zO;subst this;apply aD;refine zQ ?_;apply aN;clear aN;refine af ?_;exact bu zC
def Tg (d:Dc)(k:Ky):(ji d k).length<=(dy d).length:=by
 unfold ji dy;rw[ahL,<-qY,ahL];exact ahX _ _
theorem oi (L:List Dc)(k:Ky):(dq L k).length<=L.length:=by
 unfold dq
 induction L with
 |nil=>simp
 |cons d L ih=>
  rw[ahK,ahw,ahY];have:(C2 d k).length<=1:=by unfold C2;split<;>simp
  omega
def BX.post {m:Nat}{x:List Sd}(h:BX m x)(hm:m<=1000){L:List Dc}(hL:∀d∈L,∃p∈x,d∈p.1)(k:Ky):∀p∈dq L k,p.2.length<=1000:=by
 intro p hp;obtain⟨d,hd,rfl,_⟩:=eZ hp;obtain⟨q,hq,hdq⟩:=hL d hd;have h1:=Tg d k;have h2:=(h.w q hq d hdq).k;show (ji d k).length<=1000;omega
attribute [-simp] getD_eq_getElem?_getD in
def x8 {m:Nat}{x:List Sd}(h:BX m x)(hm:m<=1000)(hl:x.length<=400)(f:Int)(w:Bs)(H:List aA)(T:au) :
  aq prog 29 [yW x,.int .i64 f,.str w] H T (Is (.sl (fj x (f,w) x.length).length (bD (fj x (f,w) x.length)) .none) H T):=by
 refine aq.bK ?_ zS;have hg:=h.g;have ha:=h.a;have hz:=h.Uq hl;have yT:=fF x;refine ah 14 [] Tryz.ntmps29 Tryz.func29 rfl (λ_ _=>Tryz.call29 _ _) zS (λHO=>?_);refine af ?_;have eu:bM (H++[.cells (jr (bF x) (cI x))]) T:=HO.snoc zS;refine af ?_;refine ae λK1 aN=>?_;refine af ?_;apply ag;refine aG (X:=Nat) (λi=>⟨[(1,.int .i64 f),(2,.str w),(3,.ptr H.length 0),(7,.sl (fj x (f,w) i).length (bD (fj x (f,w) i)) .none),(11,.sl (bF x).length (fK (bF x)) .none),(12,.int .i64 ((bF x).length:Nat)),(13,.int .i64 (i:Nat))],H++[.cells (jr (bF x) (cI x))],T⟩) (λi=>i<=x.length) (λi=>x.length-i) 0 ?_ ?_ ?_
 ·exact ahE _
 ·refine ak [] [] ?_ ?_ ?_ ?_ eu ?_
  all_goals simp[fj,tJ]
 ·intro i g1;refine af ?_;refine ae λK2 ba=>?_;refine aV rfl (λhk=>?_) (λhk=>?_)
  ·simp  at hk;have hi:i<x.length:=zO;have hp:=gC hi;have bB:=kO (bF x) i hk;rw[fG hi] at bB;have cl:=λH T=>wL (bF x) (cI x) i hk hz H T;rw[fG hi,gH hi,xy] at cl;have cf:=λH T=>Qn (er (x.getD i e0).1) (h.sz hp) f w H T;have hv:=hg.vd _ hp;have hfb:=qy hv.n hv.lt hv.v (f,w);have l3:=uT hg hp;have hb:=h.b _ hp;have f1:(fU (er (x.getD i e0).1) (f,w)).length<=1000:=by
    rw[hfb];have:=oi (x.getD i e0).1 (f,w);omega
   have f2:∀p∈fU (er (x.getD i e0).1) (f,w),p.2.length<=1000:=by rw[hfb];exact h.post hm (λd hd=>⟨_,hp,hd⟩) (f,w)
   have co:=λH T=>Tp (fU (er (x.getD i e0).1) (f,w)) (j0 (x.getD i e0)) f1 f2 zO H T .none .none;have eo:my (fU (er (x.getD i e0).1) (f,w)) (j0 (x.getD i e0))=dq (iP (x.getD i e0)) (f,w):=by
    rw[hfb,AP hv (f,w) (by rw[oT hg hp];exact nZ (s9 hg hp)),AS hg hp]
   have o1:(my (fU (er (x.getD i e0).1) (f,w)) (j0 (x.getD i e0))).length<=1000:=by
    rw[eo];have:=oi (iP (x.getD i e0)) (f,w);have:=o4 hp;omega
   have o2:∀p∈my (fU (er (x.getD i e0).1) (f,w)) (j0 (x.getD i e0)),p.2.length<=1000:=by rw[eo];exact h.post hm (λd hd=>⟨_,hp,mE hd⟩) (f,w)
   have q1:(fj x (f,w) i).length<=1000:=by
    rw[tQ hg (f,w) i g1];have h1:=oi (fM (x.take i)) (f,w);have h2:(fM (x.take i)).length=(alive (x.take i)).length:=dU _;have h3:=mU x i;omega
   have q2:∀p∈fj x (f,w) i,p.2.length<=1000:=by
    rw[tQ hg (f,w) i g1];refine h.post hm (λd hd=>?_) (f,w);obtain⟨p,hp,hd⟩:=qK.1 hd;exact⟨p,ajt hp,mE hd⟩
   have cu:=λH T=>D9 (fj x (f,w) i) (my (fU (er (x.getD i e0).1) (f,w)) (j0 (x.getD i e0))) q1 o1 q2 o2 H T .none .none;rw[show jm (fj x (f,w) i) (my (fU (er (x.getD i e0).1) (f,w)) (j0 (x.getD i e0)))=fj x (f,w) (i+1) from rfl] at cu;clear eo hfb;generalize kX:fj x (f,w) (i+1)=nx at *;generalize fj x (f,w) i=q at *;generalize my (fU (er (x.getD i e0).1) (f,w)) (j0 (x.getD i e0))=o at *;generalize fU (er (x.getD i e0).1) (f,w)=fs at *;generalize j0 (x.getD i e0)=lv at *;generalize er (x.getD i e0).1=s at *;apply aj;refine zQ ?_;apply ba;clear ba;refine ae λK3 bH=>?_;apply ag;apply ar;simp(disch:=omega)[bB,hk,dL];refine du [] [0,0,0,0,0,0,0,0,0,0,0] [] aO zK zK λK hK=>?_;refine zQ ?_;refine az (cf _ _) rfl ?_;refine zQ ?_;refine az (cl _ _) rfl ?_;refine zQ ?_;refine az (co _ _) rfl ?_;refine zQ ?_;refine az (cu _ _) rfl ?_;refine zQ ?_;apply hK;apply bH;clear bH;refine aJ ?_;refine⟨i+1,by show i+1<=_;omega,by show x.length-(i+1)<x.length-i;omega,?_⟩;refine ak [.cells (cH s)] [] ?_ ?_ ?_ ?_ eu ?_
   all_goals simp[kX]
  ·simp  at hk;have:i=x.length:=zO;subst this;apply aD;refine zQ ?_;apply aN;clear aN;refine af ?_;exact bu zC
end Go.Proofs.YtoejlmpbebjemaaGreat
