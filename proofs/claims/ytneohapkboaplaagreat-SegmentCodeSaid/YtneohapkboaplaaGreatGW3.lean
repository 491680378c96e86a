/- Writing texts and lists of integers (layer 1): of the reference, and of the program from nothing.
  Conditions: lengths below 2^40, as each theorem says. -/
import Derived.Test.YtneohapkboaplaaGreatGW2
set_option linter.all false
set_option maxRecDepth 100000
set_option maxHeartbeats 4000000
namespace Go.Proofs.YtneohapkboaplaaGreat
open Go Go.Am gB
attribute [-simp] List.getD_eq_getElem?_getD in
theorem GZ (l:List Int)(H:List aG)(T:ay)(hl:∀x∈l,o3 x)(hb:l.length≤1000000) :
  al Tryz.prog 118 [.sl 0 [] .full,.sl l.length (ints l) .none] H T (Is (.sl (cM l).length (bu (cM l)) (.own T.length)) H (T++[((cM l).length,1)])):=by
 have c:=Bj [] T.length l H (T++[(0,1)]) (by simp) hl (by simp;omega);simp only[List.nil_append,List.length_nil,bu,List.map_nil] at c;have e:(T++[(0,1)]).set T.length ((cM l).length,1)=T++[((cM l).length,1)]:=by rw[List.set_append_right _ _ (Nat.le_refl _),Nat.sub_self];rfl
 rw[e] at c;refine aj 5 [] Tryz.ntmps118 Tryz.func118 rfl (fun _ _=>Tryz.call118 _ _) (by simp) (fun HO=>?_);refine jm 0 0 1 [] (by omega) rfl ?_;apply ae;intro K h;simp(disch:=omega);apply h;clear h K;refine ae fun K hK=>?_;simp(disch:=omega) ;refine ah (c) ?_;simp(disch:=omega) ;apply hK;clear hK K;apply an;simp(disch:=omega) ;exact⟨rfl,rfl,rfl⟩
attribute [-simp] List.getD_eq_getElem?_getD in
theorem u9 (s:List UInt8)(hs:s.length≤1000000000)(H:List aG)(T:ay):al Tryz.prog 124 [.str s] H T (Is (.sl (bf s).length (bu (bf s)) .none) H T):=by
 refine al.dS ?_ (by simp);have c:=qz (s.length:Int) (by omega) (by omega) H T;have hl:=(eN (n:=(s.length:Int)) (by omega) (by omega)).2;have he:bf s=enc s.length++s:=rfl;rw[he];generalize enc (s.length:Int)=e at *;refine aj 4 [] Tryz.ntmps124 Tryz.func124 rfl (fun _ _=>Tryz.call124 _ _) (by simp) (fun HO=>?_);apply ae;intro K h;simp(disch:=omega);apply h;clear h K;refine ae fun K hK=>?_;simp(disch:=omega) ;refine⟨_,c,?_⟩;rintro r H' T' ⟨rfl,TT,rfl,rfl⟩;simp(disch:=omega) ;apply hK;clear hK K;apply an;simp(disch:=omega) ;rw[dn]
attribute [-simp] List.getD_eq_getElem?_getD in
theorem Bc (l:List Int)(hl:∀x∈l,o3 x)(hb:l.length≤1000000)(H:List aG)(T:ay) :
  al Tryz.prog 121 [.sl l.length (ints l) .none] H T (fun r H' T'=>H'=H∧∃TT,r=.sl (cM l).length (bu (cM l)) (.own (T++TT).length)∧T'=T++TT++[((cM l).length,1)]):=by
 have c:=qz (l.length:Int) (by omega) (by omega) H T;have BZ:=fun i=>EO [] l enc 10 i (by omega) (fun x hx=>(eN (hl x hx).1 (hl x hx).2).2);simp only[List.length_nil] at BZ;have h0:=qF [] l enc;have fy:=yg [] l enc;simp only[List.nil_append] at h0 fy;have hI:cM l=acc [] l enc l.length:=fy.symm;rw[hI];clear hI fy;rw[←h0] at c;refine aj 5 [] Tryz.ntmps121 Tryz.func121 rfl (fun _ _=>Tryz.call121 _ _) (by simp) (fun HO=>?_);apply ae;intro K h;simp(disch:=omega);apply h;clear h K;refine ae fun K hK=>?_;simp(disch:=omega) ;refine⟨_,c,?_⟩;rintro r H' T' ⟨rfl,TT,rfl,rfl⟩;simp(disch:=omega) ;apply hK;clear hK K;refine af fun K1 aO=>?_;apply ae;intro K h;simp(disch:=omega);apply h;clear h K;apply ai;have hTT:(T++TT).length=T.length+TT.length:=List.length_append;refine aK (X:=Nat) (fun i=>⟨[(0,.sl l.length (ints l) .none),(3,.sl (acc [] l enc i).length (bu (acc [] l enc i)) (.own (T++TT).length)),(4,.int .i64 (i:Nat))],H',T++TT++[((acc [] l enc i).length,1)]⟩) (fun i=>i≤l.length) (fun i=>l.length-i) 0 (Nat.zero_le _) ?_ ?_
 ·refine ag [] [] ?_ ?_ ?_ ?_ (HO.df (by simp)) ?_
  all_goals simp
 ·intro i hi;refine af fun K2 aY=>?_;apply ae;intro K h;simp(disch:=omega);apply h;clear h K;refine aP rfl (fun hk=>?_) (fun hk=>?_)
  ·simp  at hk;have hx:=hl _ (gB.aR l i 0 hk);have gR:=aT hk;have lW:i<(ints l).length:=by simpa using hk
   have hs:=AN [] l enc i 0 hk;have ha:=BZ i;have Z4:=BZ (i+1);have c3:=fun T=>hZ (l.getD i 0) hx.1 hx.2 H' T;have yu:=(eN hx.1 hx.2).2;generalize l.getD i 0=x at *;apply ak;simp(disch:=omega) ;apply aY;clear aY;refine af fun K3 bA=>?_;apply ai;refine ar fun K hK=>?_;simp(disch:=omega)[gR,lW];refine ah (c3 _) ?_;simp(disch:=omega) ;rw[dn,hs,←List.length_append,hs];apply hK;clear hK K;apply bA;clear bA;refine ar fun K hK=>?_;simp(disch:=omega) ;apply hK;clear hK K;refine⟨i+1,by show i+1≤_;omega,by show l.length-(i+1)<l.length-i;omega,?_⟩;refine ag [] [] ?_ ?_ ?_ ?_ (HO.df (by simp)) ?_
   all_goals simp
  ·simp  at hk;have:i=l.length:=by omega
   subst this;apply aD;simp(disch:=omega) ;apply aO;clear aO;apply ae;intro K h;simp(disch:=omega);apply h;clear h K;apply an;simp(disch:=omega) 
end Go.Proofs.YtneohapkboaplaaGreat
