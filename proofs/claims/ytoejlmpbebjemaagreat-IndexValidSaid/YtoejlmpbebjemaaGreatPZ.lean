/- Posting lists: what is kept of them by a test on positions; laws on lists. What is kept of a posting: the function that filtered gives to merge. Merging of posting lists in layer 38. filtered of layer 38, and Near. Lists of posting lists in layer 38, and which of them are valid. Phrase of layer 38. The example of the document of layer 38 holds. At and Near of the reference of layer 38. Phrase of the reference of layer 38. PostingSets: the walk. And, Or, Without obey the laws of sets. Merging of lists of numbers in layer 38, for any function that takes the numbers. The parts of Union in layer 38: copies, joined. The union of posting lists: going through both is the same as collecting the positions of each document. Union of layer 38. Union of the reference of layer 38. Docs, Seek and Count of layer 38 and of its reference. seek of layer 38: by doubling steps, which are halved again. Posting lists: which of them are equal; the postings of some documents. Only of layer 38 and of its reference. Valid posting lists: they are their documents and positions; the laws of Union, Phrase, Near.
  Conditions: as the theorems say. -/
import Derived.Test.YtoejlmpbebjemaaGreatPA
import Derived.Test.YtoejlmpbebjemaaGreatPB
import Derived.Test.YtoejlmpbebjemaaGreatAmC
set_option linter.all false
set_option maxRecDepth 100000
set_option maxHeartbeats 4000000
namespace Post
abbrev PL:=List (Int×List Int)
def posOf:PL→Int→List Int
 |[],_=>[]
 |p::l,d=>if p.1=d then p.2 else posOf l d
def mgP {β:Type}(fA fB:β→(Int×List Int)→β)(fAB:β→(Int×List Int)→(Int×List Int)→β):Nat→PL→PL→β→β
 |0,_,_,o=>o
 |n+1,x::a,y::b,o=>if x.1<y.1 then mgP fA fB fAB n a (y::b) (fA o x) else if y.1<x.1 then mgP fA fB fAB n (x::a) b (fB o y) else mgP fA fB fAB n a b (fAB o x y)
 |n+1,x::a,[],o=>mgP fA fB fAB n a [] (fA o x)
 |n+1,[],y::b,o=>mgP fA fB fAB n [] b (fB o y)
 |_+1,[],[],o=>o
def Asc' (l:PL):Prop:=Asc (l.map (·.1))
theorem asc'_tail {x:Int×List Int}{l:PL}(h:Asc' (x::l)):Asc' l∧∀y∈l,x.1<y.1:=by
 obtain⟨h1,h2⟩:=asc_tail h;exact⟨h1,fun y hy=>h2 _ (List.mem_map.2 ⟨y,hy,rfl⟩)⟩
theorem posOf_cons_ne {p:Int×List Int}{l:PL}{d:Int}(h:p.1≠d):posOf (p::l) d=posOf l d:=by simp[posOf,h]
theorem posOf_cons_eq {p:Int×List Int}{l:PL}:posOf (p::l) p.1=p.2:=by simp[posOf]
theorem posOf_none {l:PL}{d:Int}(h:∀p∈l,p.1≠d):posOf l d=[]:=by
 induction l with
 |nil=>rfl
 |cons p l ih=>rw[posOf_cons_ne (h p (by simp)),ih (fun q hq=>h q (by simp[hq]))]
end Post
namespace Go.Proofs.YtoejlmpbebjemaaGreat
open Go Go.Am Post
def STp (T:Toks)(out:PL):Toks:=T++[(out.length*2,2)]
theorem STp_len (T:Toks)(out:PL):(STp T out).length=T.length+1:=by simp[STp]
attribute [-simp] List.getD_eq_getElem?_getD in
theorem doc_ok (p:Int×List Int)(H:List Blk)(T:Toks):ACall Tryz.prog 144 [.agg [.int .i64 p.1,.sl p.2.length (ints p.2) .none]] H T (Is (.int .i64 p.1) H T):=by
 refine ACall.drop' ?_ (by simp);refine acall_enter 3 [] Tryz.ntmps144 Tryz.func144 rfl (fun _ _=>Tryz.call144 _ _) (by simp) (fun HO=>?_);apply aw_reg;intro K h;simp(disch:=omega);apply h;clear h K;apply aw_reg;intro K h;simp(disch:=omega);apply h;clear h K;apply aw_ret;simp(disch:=omega) 
theorem drop_consP (l:PL)(i:Nat)(h:i<l.length):l.drop i=l.getD i (0,[])::l.drop (i+1):=by
 rw[List.drop_eq_getElem_cons h,List.getD_eq_getElem?_getD,List.getElem?_eq_getElem h];rfl
def MP {β:Type}(fA fB:β→(Int×List Int)→β)(fAB:β→(Int×List Int)→(Int×List Int)→β)(a b:PL)(n i j:Nat)(o:β):β:=mgP fA fB fAB n (a.drop i) (b.drop j) o
section
variable {β : Type} {fA fB : β → (Int × List Int) → β} {fAB : β → (Int × List Int) → (Int × List Int) → β} {a b : PL} {o : β} {n i j : Nat}
theorem MP_A (hn:0<n)(hi:i<a.length)(hj:j<b.length)(h:(a.getD i (0,[])).1<(b.getD j (0,[])).1):MP fA fB fAB a b n i j o=MP fA fB fAB a b (n-1) (i+1) j (fA o (a.getD i (0,[]))):=by
 obtain⟨m,rfl⟩:∃m,n=m+1:=⟨n-1,by omega⟩
 unfold MP;rw[drop_consP a i hi,drop_consP b j hj,mgP,if_pos h];rfl
theorem MP_B (hn:0<n)(hi:i<a.length)(hj:j<b.length)(h:¬(a.getD i (0,[])).1<(b.getD j (0,[])).1)(h2:(b.getD j (0,[])).1<(a.getD i (0,[])).1):MP fA fB fAB a b n i j o=MP fA fB fAB a b (n-1) i (j+1) (fB o (b.getD j (0,[]))):=by
 obtain⟨m,rfl⟩:∃m,n=m+1:=⟨n-1,by omega⟩
 unfold MP;rw[drop_consP a i hi,drop_consP b j hj,mgP,if_neg h,if_pos h2];rfl
theorem MP_AB (hn:0<n)(hi:i<a.length)(hj:j<b.length)(h:¬(a.getD i (0,[])).1<(b.getD j (0,[])).1)(h2:¬(b.getD j (0,[])).1<(a.getD i (0,[])).1):MP fA fB fAB a b n i j o=MP fA fB fAB a b (n-1) (i+1) (j+1) (fAB o (a.getD i (0,[])) (b.getD j (0,[]))):=by
 obtain⟨m,rfl⟩:∃m,n=m+1:=⟨n-1,by omega⟩
 unfold MP;rw[drop_consP a i hi,drop_consP b j hj,mgP,if_neg h,if_neg h2];rfl
theorem MP_A0 (hn:0<n)(hi:i<a.length)(hj:j=b.length):MP fA fB fAB a b n i j o=MP fA fB fAB a b (n-1) (i+1) j (fA o (a.getD i (0,[]))):=by
 obtain⟨m,rfl⟩:∃m,n=m+1:=⟨n-1,by omega⟩
 unfold MP;rw[drop_consP a i hi,hj,List.drop_length,mgP];rfl
theorem MP_B0 (hn:0<n)(hi:i=a.length)(hj:j<b.length):MP fA fB fAB a b n i j o=MP fA fB fAB a b (n-1) i (j+1) (fB o (b.getD j (0,[]))):=by
 obtain⟨m,rfl⟩:∃m,n=m+1:=⟨n-1,by omega⟩
 unfold MP;rw[drop_consP b j hj,hi,List.drop_length,mgP];rfl
theorem MP_end (hi:i=a.length)(hj:j=b.length):MP fA fB fAB a b n i j o=o:=by
 unfold MP;rw[hi,hj,List.drop_length,List.drop_length]
 cases n<;>rfl
end
attribute [-simp] List.getD_eq_getElem?_getD in
theorem mergeP_ok {β:Type}(g:Nat)(caps:List AV)(fA fB:β→(Int×List Int)→β)(fAB:β→(Int×List Int)→(Int×List Int)→β)(S:β→List Blk)(U:β→Toks)(I:Nat→β→Prop)(N M:Nat)(o0:β)
  (a b:PL) (ha:a.length≤1000) (hb:b.length≤1000) (hS:∀o,(S o).length=N) (hU:∀o,(U o).length=M) (hbc:BelowAll N M caps) (hok:∀n o,I n o→HOk (S o) (U o)) (h0:I 0 o0)
  (cA:∀n i o,i<a.length→n≤2000→I n o→ACall Tryz.prog g ([.vptr (psAV a) (i*2),.nilp]++caps) (S o) (U o) (Is (.tup []) (S (fA o (a.getD i (0,[])))) (U (fA o (a.getD i (0,[]))))))
  (cB:∀n j o,j<b.length→n≤2000→I n o→ACall Tryz.prog g ([.nilp,.vptr (psAV b) (j*2)]++caps) (S o) (U o) (Is (.tup []) (S (fB o (b.getD j (0,[])))) (U (fB o (b.getD j (0,[]))))))
  (cAB:∀n i j o,i<a.length→j<b.length→n≤2000→I n o→ACall Tryz.prog g ([.vptr (psAV a) (i*2),.vptr (psAV b) (j*2)]++caps) (S o) (U o) (Is (.tup []) (S (fAB o (a.getD i (0,[])) (b.getD j (0,[])))) (U (fAB o (a.getD i (0,[])) (b.getD j (0,[]))))))
  (iA:∀n i o,i<a.length→I n o→I (n+1) (fA o (a.getD i (0,[])))) (iB:∀n j o,j<b.length→I n o→I (n+1) (fB o (b.getD j (0,[])))) (iAB:∀n i j o,i<a.length→j<b.length→I n o→I (n+2) (fAB o (a.getD i (0,[])) (b.getD j (0,[])))) :
  ACall Tryz.prog 143 [.sl a.length (psAV a) .none,.sl b.length (psAV b) .none,.fn 144 [] [],.fn g [] caps] (S o0) (U o0)
   (Is (.tup []) (S (MP fA fB fAB a b (a.length+b.length) 0 0 o0)) (U (MP fA fB fAB a b (a.length+b.length) 0 0 o0))):=by
 refine acall_enter 11 [] Tryz.ntmps143 Tryz.func143 rfl (fun _ _=>Tryz.call143 _ _) (by simp) (fun HO=>?_);apply aw_reg;intro K h;simp(disch:=omega);apply h;clear h K;apply aw_block;refine aw_loop (X:=Nat×Nat×Nat×β) (fun x=>⟨[(0,.sl a.length (psAV a) .none),(1,.sl b.length (psAV b) .none),(2,.fn 144 [] []),(3,.fn g [] caps),(8,.int .i64 (x.2.1:Nat)),(9,.int .i64 (x.2.2.1:Nat))],S x.2.2.2,U x.2.2.2⟩)
  (fun x=>x.2.1≤a.length∧x.2.2.1≤b.length∧(a.length-x.2.1)+(b.length-x.2.2.1)≤x.1∧MP fA fB fAB a b (a.length+b.length) 0 0 o0=MP fA fB fAB a b x.1 x.2.1 x.2.2.1 x.2.2.2∧I (x.2.1+x.2.2.1) x.2.2.2) (fun x=>x.1) (a.length+b.length,0,0,o0) ?_ ?_ ?_
 ·exact⟨Nat.zero_le _,Nat.zero_le _,by simp only;omega,rfl,h0⟩
 ·refine weak_to [] [] ?_ ?_ ?_ ?_ HO ?_
  ·simp
  ·simp
  ·simp
  ·simp
  ·simp[hS,hU,hbc]
 ·rintro⟨n,i,j,out⟩ ⟨h1,h2,h3,h4,h5⟩;simp only at h1 h2 h3 h4 h5
  by_cases hi:i<a.length
  ·have bi:decide ((i:Int)<a.length)=true:=by simp;omega
   have ni:((i:Int)==a.length)=false:=by rw[beq_eq_false_iff_ne];omega
   have ni2:¬i=a.length:=by omega
   have hca:=psAV_cut a i hi
   by_cases hj:j<b.length
   ·have bj:decide ((j:Int)<b.length)=true:=by simp;omega
    have nj:((j:Int)==b.length)=false:=by rw[beq_eq_false_iff_ne];omega
    have nj2:¬j=b.length:=by omega
    have hcb:=psAV_cut b j hj;have hn:0<n:=by omega
    refine aw_then fun K2 hK2=>?_;refine aw_reg fun K hK=>?_;simp(disch:=omega)[bi,bj,hi,hj];apply hK;clear hK K;apply aw_ift rfl;apply aw_skip;simp(disch:=omega) ;apply hK2;clear hK2;apply aw_block;apply aw_block
    by_cases c1:(a.getD i (0,[])).1<(b.getD j (0,[])).1
    ·have b1:decide ((a.getD i (0,[])).1<(b.getD j (0,[])).1)=true:=by simpa using c1
     have hst:=MP_A (fA:=fA) (fB:=fB) (fAB:=fAB) (o:=out) hn hi hj c1;refine aw_draw [] [] [] drawMixed (by kernel_rfl) (by kernel_rfl) fun K hK=>?_;simp(disch:=omega)[bi,hi,nj,nj2,hca,psAV_len];refine dcall_is (doc_ok _ _ _) rfl ?_;simp(disch:=omega)[hcb,psAV_len];refine dcall_is (doc_ok _ _ _) rfl ?_;simp(disch:=omega)[b1,c1];apply hK;clear hK K;apply aw_ift rfl;refine aw_reg fun K hK=>?_;simp(disch:=omega)[psAV_len];refine acall_is (cA (i+j) i out hi (by omega) h5) ?_;simp(disch:=omega) ;apply hK;clear hK K;refine aw_reg0 fun K hK=>?_;simp(disch:=omega) ;apply hK;clear hK K;refine⟨(n-1,i+1,j,fA out (a.getD i (0,[]))),⟨by show i+1≤a.length;omega,by show j≤b.length;omega,by show (a.length-(i+1))+(b.length-(j))≤n-1;omega,h4.trans hst,(show I (i+1+j) _ by rw[show i+1+j=i+j+1 by omega];exact iA _ i out hi h5)⟩,by show n-1<n;omega,?_⟩;refine weak_to [] [] ?_ ?_ ?_ ?_ (hok _ _ ((show I (i+1+j) _ by rw[show i+1+j=i+j+1 by omega];exact iA _ i out hi h5))) ?_
     ·simp
     ·simp
     ·simp[hS]
     ·simp[hU]
     ·simp[hS,hU,hbc]
      try omega
    ·have b1:decide ((a.getD i (0,[])).1<(b.getD j (0,[])).1)=false:=by simpa using c1
     refine aw_draw [] [] [] drawMixed (by kernel_rfl) (by kernel_rfl) fun K hK=>?_;simp(disch:=omega)[bi,hi,nj,nj2,hca,psAV_len];refine dcall_is (doc_ok _ _ _) rfl ?_;simp(disch:=omega)[hcb,psAV_len];refine dcall_is (doc_ok _ _ _) rfl ?_;simp(disch:=omega)[b1,c1];apply hK;clear hK K;apply aw_iff rfl
     by_cases c2:(b.getD j (0,[])).1<(a.getD i (0,[])).1
     ·have b2:decide ((b.getD j (0,[])).1<(a.getD i (0,[])).1)=true:=by simpa using c2
      have hst:=MP_B (fA:=fA) (fB:=fB) (fAB:=fAB) (o:=out) hn hi hj c1 c2;refine aw_draw [] [] [] drawMixed (by kernel_rfl) (by kernel_rfl) fun K hK=>?_;simp(disch:=omega)[ni,ni2,hcb,psAV_len,hj];refine dcall_is (doc_ok _ _ _) rfl ?_;simp(disch:=omega)[hca,psAV_len];refine dcall_is (doc_ok _ _ _) rfl ?_;simp(disch:=omega)[b2,c2];apply hK;clear hK K;apply aw_ift rfl;refine aw_reg fun K hK=>?_;simp(disch:=omega)[psAV_len];refine acall_is (cB (i+j) j out hj (by omega) h5) ?_;simp(disch:=omega) ;apply hK;clear hK K;refine aw_reg0 fun K hK=>?_;simp(disch:=omega) ;apply hK;clear hK K;refine⟨(n-1,i,j+1,fB out (b.getD j (0,[]))),⟨by show i≤a.length;omega,by show j+1≤b.length;omega,by show (a.length-(i))+(b.length-(j+1))≤n-1;omega,h4.trans hst,(show I (i+(j+1)) _ from iB _ j out hj h5)⟩,by show n-1<n;omega,?_⟩;refine weak_to [] [] ?_ ?_ ?_ ?_ (hok _ _ ((show I (i+(j+1)) _ from iB _ j out hj h5))) ?_
      ·simp
      ·simp
      ·simp[hS]
      ·simp[hU]
      ·simp[hS,hU,hbc]
       try omega
     ·have b2:decide ((b.getD j (0,[])).1<(a.getD i (0,[])).1)=false:=by simpa using c2
      have hst:=MP_AB (fA:=fA) (fB:=fB) (fAB:=fAB) (o:=out) hn hi hj c1 c2;refine aw_draw [] [] [] drawMixed (by kernel_rfl) (by kernel_rfl) fun K hK=>?_;simp(disch:=omega)[ni,ni2,hcb,psAV_len,hj];refine dcall_is (doc_ok _ _ _) rfl ?_;simp(disch:=omega)[hca,psAV_len];refine dcall_is (doc_ok _ _ _) rfl ?_;simp(disch:=omega)[b2,c2];apply hK;clear hK K;apply aw_iff rfl;refine aw_draw [7] [0,0,0,0,0,0,0,0] [[]] drawMixed (by kernel_rfl) (by kernel_rfl) fun K hK=>?_;simp(disch:=omega)[psAV_len,hi,hj];refine dcall_eff (cAB (i+j) i j out hi hj (by omega) h5) rfl ?_;simp(disch:=omega) ;apply hK;clear hK K;refine aw_reg0 fun K hK=>?_;simp(disch:=omega) ;apply hK;clear hK K;refine⟨(n-1,i+1,j+1,fAB out (a.getD i (0,[])) (b.getD j (0,[]))),⟨by show i+1≤a.length;omega,by show j+1≤b.length;omega,by show (a.length-(i+1))+(b.length-(j+1))≤n-1;omega,h4.trans hst,(show I (i+1+(j+1)) _ by rw[show i+1+(j+1)=i+j+2 by omega];exact iAB _ i j out hi hj h5)⟩,by show n-1<n;omega,?_⟩;refine weak_to [] [] ?_ ?_ ?_ ?_ (hok _ _ ((show I (i+1+(j+1)) _ by rw[show i+1+(j+1)=i+j+2 by omega];exact iAB _ i j out hi hj h5))) ?_
      ·simp
      ·simp
      ·simp[hS]
      ·simp[hU]
      ·simp[hS,hU,hbc]
       try omega
   ·have bj:decide ((j:Int)<b.length)=false:=by simp;omega
    have hjb:j=b.length:=by omega
    have nj:((j:Int)==b.length)=true:=by simp;omega
    have hn:0<n:=by omega
    have hst:=MP_A0 (fA:=fA) (fB:=fB) (fAB:=fAB) (o:=out) hn hi hjb;refine aw_then fun K2 hK2=>?_;refine aw_reg fun K hK=>?_;simp(disch:=omega)[bi,bj,hi,hj];apply hK;clear hK K;apply aw_ift rfl;apply aw_skip;simp(disch:=omega) ;apply hK2;clear hK2;apply aw_block;apply aw_block;have hjz:(j:Int)=(b.length:Int):=by omega
    refine aw_draw [] [] [] drawMixed (by kernel_rfl) (by kernel_rfl) fun K hK=>?_;simp(disch:=omega)[nj,hjz];apply hK;clear hK K;apply aw_ift rfl;refine aw_reg fun K hK=>?_;simp(disch:=omega)[psAV_len];refine acall_is (cA (i+j) i out hi (by omega) h5) ?_;simp(disch:=omega) ;apply hK;clear hK K;refine aw_reg0 fun K hK=>?_;simp(disch:=omega) ;apply hK;clear hK K;refine⟨(n-1,i+1,j,fA out (a.getD i (0,[]))),⟨by show i+1≤a.length;omega,by show j≤b.length;omega,by show (a.length-(i+1))+(b.length-(j))≤n-1;omega,h4.trans hst,(show I (i+1+j) _ by rw[show i+1+j=i+j+1 by omega];exact iA _ i out hi h5)⟩,by show n-1<n;omega,?_⟩;refine weak_to [] [] ?_ ?_ ?_ ?_ (hok _ _ ((show I (i+1+j) _ by rw[show i+1+j=i+j+1 by omega];exact iA _ i out hi h5))) ?_
    ·simp
    ·simp
    ·simp[hS]
    ·simp[hU]
    ·simp[hS,hU,hbc]
     try omega
  ·have bi:decide ((i:Int)<a.length)=false:=by simp;omega
   have hia:i=a.length:=by omega
   by_cases hj:j<b.length
   ·have bj:decide ((j:Int)<b.length)=true:=by simp;omega
    have nj:((j:Int)==b.length)=false:=by rw[beq_eq_false_iff_ne];omega
    have nj2:¬j=b.length:=by omega
    have ni:((i:Int)==a.length)=true:=by simp;omega
    have hn:0<n:=by omega
    have hst:=MP_B0 (fA:=fA) (fB:=fB) (fAB:=fAB) (o:=out) hn hia hj;refine aw_then fun K2 hK2=>?_;refine aw_reg fun K hK=>?_;simp(disch:=omega)[bi,bj,hi,hj];apply hK;clear hK K;apply aw_ift rfl;apply aw_skip;simp(disch:=omega) ;apply hK2;clear hK2;apply aw_block;apply aw_block;refine aw_draw [] [] [] drawMixed (by kernel_rfl) (by kernel_rfl) fun K hK=>?_;simp(disch:=omega)[nj,nj2,bi,hi];apply hK;clear hK K;apply aw_iff rfl;have hiz:(i:Int)=(a.length:Int):=by omega
    refine aw_draw [] [] [] drawMixed (by kernel_rfl) (by kernel_rfl) fun K hK=>?_;simp(disch:=omega)[ni,hiz];apply hK;clear hK K;apply aw_ift rfl;refine aw_reg fun K hK=>?_;simp(disch:=omega)[psAV_len];refine acall_is (cB (i+j) j out hj (by omega) h5) ?_;simp(disch:=omega) ;apply hK;clear hK K;refine aw_reg0 fun K hK=>?_;simp(disch:=omega) ;apply hK;clear hK K;refine⟨(n-1,i,j+1,fB out (b.getD j (0,[]))),⟨by show i≤a.length;omega,by show j+1≤b.length;omega,by show (a.length-(i))+(b.length-(j+1))≤n-1;omega,h4.trans hst,(show I (i+(j+1)) _ from iB _ j out hj h5)⟩,by show n-1<n;omega,?_⟩;refine weak_to [] [] ?_ ?_ ?_ ?_ (hok _ _ ((show I (i+(j+1)) _ from iB _ j out hj h5))) ?_
    ·simp
    ·simp
    ·simp[hS]
    ·simp[hU]
    ·simp[hS,hU,hbc]
     try omega
   ·have bj:decide ((j:Int)<b.length)=false:=by simp;omega
    have hend:=MP_end (fA:=fA) (fB:=fB) (fAB:=fAB) (a:=a) (b:=b) (o:=out) (n:=n) hia (show j=b.length by omega);rw[hend] at h4;refine aw_then fun K2 hK2=>?_;refine aw_reg fun K hK=>?_;simp(disch:=omega)[bi,bj,hi,hj];apply hK;clear hK K;apply aw_iff rfl;apply aw_exit;simp(disch:=omega) ;rw[h4];exact⟨rfl,rfl,rfl⟩
theorem posOf_mem {b:PL}{y:Int×List Int}(hs:Asc' b)(h:y∈b):posOf b y.1=y.2:=by
 induction b with
 |nil=>simp at h
 |cons z b ih=>
  obtain⟨h1,h2⟩:=asc'_tail hs;rcases List.mem_cons.1 h with rfl|h
  ·exact posOf_cons_eq
  ·have:=h2 y h;rw[posOf_cons_ne (by omega)];exact ih h1 h
theorem validL_iff {l:PL}(h:validL l=true):Asc' l∧(∀p∈l,1≤p.1∧p.1≤1000000000)∧∀p∈l,p.2≠[]∧Asc p.2∧∀q∈p.2,0≤q∧q≤1000000:=by
 have bounds:∀(l:List Int)(lo hi:Int),asc l lo hi=true→∀q∈l,lo≤q∧q≤hi:=fun l lo hi h q hq=>by
  obtain⟨j,hj,e⟩:=memD_inv 0 hq;unfold asc at h;rw[List.all_eq_true] at h;have:=h j (by simpa using hj);unfold ascAt at this;simp only[Bool.and_eq_true,decide_eq_true_eq] at this;rw[e] at this;exact this.1
 unfold validL at h;rw[Bool.and_eq_true] at h;obtain⟨h1,h2⟩:=h;refine⟨asc_pair h1,fun p hp=>bounds _ _ _ h1 _ (List.mem_map.2 ⟨p,hp,rfl⟩),fun p hp=>?_⟩;have h3:badP p=false:=by
  cases hb:badP p with
  |false=>rfl
  |true=>
   have:l.any badP=true:=List.any_eq_true.2 ⟨p,hp,hb⟩;rw[this] at h2;simp at h2
 unfold badP at h3;rw[Bool.or_eq_false_iff] at h3;have h4:asc p.2 0 1000000=true:=by simpa using h3.2
 refine⟨fun e=>?_,asc_pair h4,bounds _ _ _ h4⟩;have:=h3.1;rw[e] at this;simp at this
theorem posOf_no {l:PL}{d:Int}(h:¬d∈l.map (·.1)):posOf l d=[]:=posOf_none fun p hp e=>h (List.mem_map.2 ⟨p,hp,e⟩)
theorem posOf_first:∀(l:PL)(k:Nat)(d:Int),k<l.length→(∀j,j<k→(l.getD j (0,[])).1≠d)→(l.getD k (0,[])).1=d→posOf l d=(l.getD k (0,[])).2:=by
 intro l
 induction l with
 |nil=>intro k d h;simp at h
 |cons p l ih=>
  intro k d h h1 h2
  cases k with
  |zero=>simp at h2;subst h2;exact posOf_cons_eq
  |succ k=>
   have h0:p.1≠d:=by have:=h1 0 (by omega);simpa using this
   rw[posOf_cons_ne h0];exact ih k d (by simpa using h) (fun j hj=>by have:=h1 (j+1) (by omega);simpa using this) (by simpa using h2)
attribute [-simp] List.getD_eq_getElem?_getD in
theorem atR_ok (l:PL)(d:Int)(hl:l.length≤5000)(H:List Blk)(T:Toks)(tg:Tag):ACall Tryz.prog 166 [.sl l.length (psAV l) tg,.int .i64 d] H T (Is (.sl (posOf l d).length (ints (posOf l d)) .none) H T):=by
 refine ACall.untag1 ?_;refine ACall.drop' ?_ (by simp);refine acall_enter 6 [] Tryz.ntmps166 Tryz.func166 rfl (fun _ _=>Tryz.call166 _ _) (by simp) (fun HO=>?_);apply aw_reg;intro K h;simp(disch:=omega);apply h;clear h K;refine aw_then fun K1 hK1=>?_;apply aw_reg;intro K h;simp(disch:=omega);apply h;clear h K;apply aw_block;refine aw_loop (X:=Nat) (fun k=>⟨[(0,.sl l.length (psAV l) .none),(1,.int .i64 d),(5,.int .i64 (k:Nat))],H,T⟩) (fun k=>k≤l.length∧∀j,j<k→(l.getD j (0,[])).1≠d) (fun k=>l.length-k) 0 ?_ ?_ ?_
 ·exact⟨Nat.zero_le _,fun j hj=>absurd hj (Nat.not_lt_zero _)⟩
 ·refine weak_to [] [] ?_ ?_ ?_ ?_ HO ?_
  all_goals simp
 ·rintro k ⟨h1,h2⟩;refine aw_then fun K2 hK2=>?_;apply aw_reg;intro K h;simp(disch:=omega);apply h;clear h K;refine aw_if rfl (fun hk=>?_) (fun hk=>?_)
  ·simp  at hk;have hat:=psAV_at l k hk;apply aw_skip;simp(disch:=omega) ;apply hK2;clear hK2;refine aw_then fun K3 hK3=>?_;apply aw_block
   by_cases hc:(l.getD k (0,[])).1=d
   ·have b:((l.getD k (0,[])).1==d)=true:=by simpa using hc
    have hf:=posOf_first l k d hk h2 hc;refine aw_reg fun K hK=>?_;simp(disch:=omega)[hat.1,psAV_len,b];apply hK;clear hK K;apply aw_ift rfl;refine aw_reg fun K hK=>?_;simp(disch:=omega)[hat.2,psAV_len];apply hK;clear hK K;apply aw_ret;simp(disch:=omega) ;rw[hf];simp
   ·have b:((l.getD k (0,[])).1==d)=false:=by simpa using hc
    refine aw_reg fun K hK=>?_;simp(disch:=omega)[hat.1,psAV_len,b];apply hK;clear hK K;apply aw_iff rfl;apply aw_skip;simp(disch:=omega) ;apply hK3;clear hK3;refine aw_reg0 fun K hK=>?_;simp(disch:=omega) ;apply hK;clear hK K;refine⟨k+1,⟨by show k+1≤_;omega,fun j hj=>?_⟩,by show l.length-(k+1)<l.length-k;omega,?_⟩
    ·rcases Nat.lt_or_ge j k with h3|h3
     ·exact h2 j h3
     ·have:j=k:=by omega
      subst this;exact hc
    ·refine weak_to [] [] ?_ ?_ ?_ ?_ HO ?_
     all_goals simp
  ·simp  at hk;have hm:posOf l d=[]:=posOf_none fun p hp e=>by
    obtain⟨j,hj,e2⟩:=memD_inv (0,[]) hp;have:=h2 j (by omega);rw[e2] at this;exact this e
   apply aw_exit;simp(disch:=omega) ;apply hK1;clear hK1;apply aw_reg;intro K h;simp(disch:=omega);apply h;clear h K;apply aw_ret;simp(disch:=omega) ;rw[hm];simp
theorem mg_len {fA fB fAB:List Int→Int→List Int}(hA:∀o x,(fA o x).length≤o.length+1)(hB:∀o x,(fB o x).length≤o.length+1)(hAB:∀o x,(fAB o x).length≤o.length+1) :
  ∀(n:Nat)(a b o:List Int),(mgN fA fB fAB n a b o).length≤o.length+a.length+b.length:=by
 intro n
 induction n with
 |zero=>intro a b o;simp only[mgN];omega
 |succ n ih=>
  intro a b o
  cases a with
  |nil=>
   cases b with
   |nil=>simp only[mgN];omega
   |cons y b=>have:=ih [] b (fB o y);have:=hB o y;simp only[mgN,List.length_cons];omega
  |cons x a=>
   cases b with
   |nil=>have:=ih a [] (fA o x);have:=hA o x;simp only[mgN,List.length_cons];omega
   |cons y b=>
    have e1:=ih a (y::b) (fA o x);have e2:=ih (x::a) b (fB o y);have e3:=ih a b (fAB o x);have:=hA o x;have:=hB o y;have:=hAB o x;simp only[List.length_cons] at e1 e2 ⊢;rw[mgN]
    split
    ·omega
    ·split
     ·omega
     ·omega
theorem comb_len (kf:Bool→Bool→Bool)(a b:List Int):(comb kf a b).length≤a.length+b.length:=by
 have st:∀(k:Bool)(o:List Int)(x:Int),(if k=true then o++[x] else o).length≤o.length+1:=fun k o x=>by split<;>simp
 unfold comb
 split
 ·have:=mg_len (fA:=fun o x=>if kf true false then o++[x] else o) (fB:=fun o x=>if kf false true then o++[x] else o) (fAB:=fun o x=>if kf true true then o++[x] else o) (fun o x=>st _ o x) (fun o x=>st _ o x) (fun o x=>st _ o x) (a.length+b.length) a b [];simp only[List.length_nil,Nat.zero_add] at this;exact this
 ·simp
theorem keepR_len (f:Bool→Bool)(a b:List Int):(keepR f a b).length≤a.length+b.length:=by
 unfold keepR
 split
 ·exact Nat.le_trans (List.length_filter_le _ _) (by omega)
 ·simp
def V (l:List Int):Prop:=asc l 1 1000000000=true
theorem asc_bounds {l:List Int}{lo hi:Int}(h:asc l lo hi=true):∀q∈l,lo≤q∧q≤hi:=fun q hq=>by
 obtain⟨j,hj,e⟩:=memD_inv 0 hq;unfold asc at h;rw[List.all_eq_true] at h;have:=h j (by simpa using hj);unfold ascAt at this;simp only[Bool.and_eq_true,decide_eq_true_eq] at this;rw[e] at this;exact this.1
theorem asc_of {l:List Int}{lo hi:Int}(h:Asc l)(hb:∀q∈l,lo≤q∧q≤hi):asc l lo hi=true:=by
 refine asc_all fun j hj=>?_;have hbj:=hb _ (memD l j 0 hj);unfold ascAt;simp only[Bool.and_eq_true,decide_eq_true_eq,Bool.or_eq_true];refine⟨hbj,?_⟩;rcases Nat.eq_zero_or_pos j with h0|h0
 ·exact .inl h0
 ·exact .inr (asc_get h (by omega) hj)
theorem comb_spec (kf:Bool→Bool→Bool){a b:List Int}(ha:V a)(hb:V b):Asc (comb kf a b)∧∀z,z∈comb kf a b↔(z∈a∧z∉b∧kf true false=true)∨(z∈b∧z∉a∧kf false true=true)∨(z∈a∧z∈b∧kf true true=true):=by
 obtain⟨_,g2,g3⟩:=mg_keep (kf true false) (kf false true) (kf true true) (a.length+b.length) a b [] (Nat.le_refl _) (asc_pair ha) (asc_pair hb);have e:comb kf a b=mgN (fun o x=>if kf true false then o++[x] else o) (fun o x=>if kf false true then o++[x] else o) (fun o x=>if kf true true then o++[x] else o) (a.length+b.length) a b []:=by
  unfold comb;rw[if_pos ⟨ha,hb⟩];rfl
 rw[e];exact⟨g3,g2⟩
def An (a b:List Int):List Int:=comb (fun p q=>p&&q) a b
section
variable {a b c : List Int} (ha : V a) (hb : V b) (hc : V c)
include ha hb
include hc
end
def mgI {β:Type}(fA fB:β→Int→β)(fAB:β→Int→Int→β):Nat→List Int→List Int→β→β
 |0,_,_,o=>o
 |n+1,x::a,y::b,o=>if x<y then mgI fA fB fAB n a (y::b) (fA o x) else if y<x then mgI fA fB fAB n (x::a) b (fB o y) else mgI fA fB fAB n a b (fAB o x y)
 |n+1,x::a,[],o=>mgI fA fB fAB n a [] (fA o x)
 |n+1,[],y::b,o=>mgI fA fB fAB n [] b (fB o y)
 |_+1,[],[],o=>o
@[simp] theorem ints_len (l:List Int):(ints l).length=l.length:=by simp[ints]
def MI {β:Type}(fA fB:β→Int→β)(fAB:β→Int→Int→β)(a b:List Int)(n i j:Nat)(o:β):β:=mgI fA fB fAB n (a.drop i) (b.drop j) o
section
variable {β : Type} {fA fB : β → Int → β} {fAB : β → Int → Int → β} {a b : List Int} {o : β} {n i j : Nat}
theorem MI_A (hn:0<n)(hi:i<a.length)(hj:j<b.length)(h:a.getD i 0<b.getD j 0):MI fA fB fAB a b n i j o=MI fA fB fAB a b (n-1) (i+1) j (fA o (a.getD i 0)):=by
 obtain⟨m,rfl⟩:∃m,n=m+1:=⟨n-1,by omega⟩
 unfold MI;rw[drop_cons0 a i hi,drop_cons0 b j hj,mgI,if_pos h];rfl
theorem MI_B (hn:0<n)(hi:i<a.length)(hj:j<b.length)(h:¬a.getD i 0<b.getD j 0)(h2:b.getD j 0<a.getD i 0):MI fA fB fAB a b n i j o=MI fA fB fAB a b (n-1) i (j+1) (fB o (b.getD j 0)):=by
 obtain⟨m,rfl⟩:∃m,n=m+1:=⟨n-1,by omega⟩
 unfold MI;rw[drop_cons0 a i hi,drop_cons0 b j hj,mgI,if_neg h,if_pos h2];rfl
theorem MI_AB (hn:0<n)(hi:i<a.length)(hj:j<b.length)(h:¬a.getD i 0<b.getD j 0)(h2:¬b.getD j 0<a.getD i 0):MI fA fB fAB a b n i j o=MI fA fB fAB a b (n-1) (i+1) (j+1) (fAB o (a.getD i 0) (b.getD j 0)):=by
 obtain⟨m,rfl⟩:∃m,n=m+1:=⟨n-1,by omega⟩
 unfold MI;rw[drop_cons0 a i hi,drop_cons0 b j hj,mgI,if_neg h,if_neg h2];rfl
theorem MI_A0 (hn:0<n)(hi:i<a.length)(hj:j=b.length):MI fA fB fAB a b n i j o=MI fA fB fAB a b (n-1) (i+1) j (fA o (a.getD i 0)):=by
 obtain⟨m,rfl⟩:∃m,n=m+1:=⟨n-1,by omega⟩
 unfold MI;rw[drop_cons0 a i hi,hj,List.drop_length,mgI];rfl
theorem MI_B0 (hn:0<n)(hi:i=a.length)(hj:j<b.length):MI fA fB fAB a b n i j o=MI fA fB fAB a b (n-1) i (j+1) (fB o (b.getD j 0)):=by
 obtain⟨m,rfl⟩:∃m,n=m+1:=⟨n-1,by omega⟩
 unfold MI;rw[drop_cons0 b j hj,hi,List.drop_length,mgI];rfl
theorem MI_end (hi:i=a.length)(hj:j=b.length):MI fA fB fAB a b n i j o=o:=by
 unfold MI;rw[hi,hj,List.drop_length,List.drop_length]
 cases n<;>rfl
end
attribute [-simp] List.getD_eq_getElem?_getD in
theorem mergeI_ok {β:Type}(g:Nat)(caps:List AV)(fA fB:β→Int→β)(fAB:β→Int→Int→β)(S:β→List Blk)(U:β→Toks)(I:Nat→β→Prop)(N M:Nat)(o0:β)
  (a b:List Int) (ha:a.length≤1000) (hb:b.length≤1000) (hS:∀o,(S o).length=N) (hU:∀o,(U o).length=M) (hbc:BelowAll N M caps) (hok:∀n o,I n o→HOk (S o) (U o)) (h0:I 0 o0)
  (cA:∀n i o,i<a.length→n≤2000→I n o→ACall Tryz.prog g ([.vptr (ints a) i,.nilp]++caps) (S o) (U o) (Is (.tup []) (S (fA o (a.getD i 0))) (U (fA o (a.getD i 0)))))
  (cB:∀n j o,j<b.length→n≤2000→I n o→ACall Tryz.prog g ([.nilp,.vptr (ints b) j]++caps) (S o) (U o) (Is (.tup []) (S (fB o (b.getD j 0))) (U (fB o (b.getD j 0)))))
  (cAB:∀n i j o,i<a.length→j<b.length→n≤2000→I n o→ACall Tryz.prog g ([.vptr (ints a) i,.vptr (ints b) j]++caps) (S o) (U o) (Is (.tup []) (S (fAB o (a.getD i 0) (b.getD j 0))) (U (fAB o (a.getD i 0) (b.getD j 0)))))
  (iA:∀n i o,i<a.length→I n o→I (n+1) (fA o (a.getD i 0))) (iB:∀n j o,j<b.length→I n o→I (n+1) (fB o (b.getD j 0))) (iAB:∀n i j o,i<a.length→j<b.length→I n o→I (n+2) (fAB o (a.getD i 0) (b.getD j 0))) :
  ACall Tryz.prog 171 [.sl a.length (ints a) .none,.sl b.length (ints b) .none,.fn 172 [] [],.fn g [] caps] (S o0) (U o0)
   (Is (.tup []) (S (MI fA fB fAB a b (a.length+b.length) 0 0 o0)) (U (MI fA fB fAB a b (a.length+b.length) 0 0 o0))):=by
 refine acall_enter 11 [] Tryz.ntmps171 Tryz.func171 rfl (fun _ _=>Tryz.call171 _ _) (by simp) (fun HO=>?_);apply aw_reg;intro K h;simp(disch:=omega);apply h;clear h K;apply aw_block;refine aw_loop (X:=Nat×Nat×Nat×β) (fun x=>⟨[(0,.sl a.length (ints a) .none),(1,.sl b.length (ints b) .none),(2,.fn 172 [] []),(3,.fn g [] caps),(8,.int .i64 (x.2.1:Nat)),(9,.int .i64 (x.2.2.1:Nat))],S x.2.2.2,U x.2.2.2⟩)
  (fun x=>x.2.1≤a.length∧x.2.2.1≤b.length∧(a.length-x.2.1)+(b.length-x.2.2.1)≤x.1∧MI fA fB fAB a b (a.length+b.length) 0 0 o0=MI fA fB fAB a b x.1 x.2.1 x.2.2.1 x.2.2.2∧I (x.2.1+x.2.2.1) x.2.2.2) (fun x=>x.1) (a.length+b.length,0,0,o0) ?_ ?_ ?_
 ·exact⟨Nat.zero_le _,Nat.zero_le _,by simp only;omega,rfl,h0⟩
 ·refine weak_to [] [] ?_ ?_ ?_ ?_ HO ?_
  ·simp
  ·simp
  ·simp
  ·simp
  ·simp[hS,hU,hbc]
 ·rintro⟨n,i,j,out⟩ ⟨h1,h2,h3,h4,h5⟩;simp only at h1 h2 h3 h4 h5
  by_cases hi:i<a.length
  ·have bi:decide ((i:Int)<a.length)=true:=by simp;omega
   have ni:((i:Int)==a.length)=false:=by rw[beq_eq_false_iff_ne];omega
   have ni2:¬i=a.length:=by omega
   have hca:=getD_ints (xs:=a) (k:=i) hi
   by_cases hj:j<b.length
   ·have bj:decide ((j:Int)<b.length)=true:=by simp;omega
    have nj:((j:Int)==b.length)=false:=by rw[beq_eq_false_iff_ne];omega
    have nj2:¬j=b.length:=by omega
    have hcb:=getD_ints (xs:=b) (k:=j) hj;have hn:0<n:=by omega
    refine aw_then fun K2 hK2=>?_;refine aw_reg fun K hK=>?_;simp(disch:=omega)[bi,bj,hi,hj];apply hK;clear hK K;apply aw_ift rfl;apply aw_skip;simp(disch:=omega) ;apply hK2;clear hK2;apply aw_block;apply aw_block
    by_cases c1:a.getD i 0<b.getD j 0
    ·have b1:decide (a.getD i 0<b.getD j 0)=true:=by simpa using c1
     have hst:=MI_A (fA:=fA) (fB:=fB) (fAB:=fAB) (o:=out) hn hi hj c1;refine aw_draw [] [] [] drawMixed (by kernel_rfl) (by kernel_rfl) fun K hK=>?_;simp(disch:=omega)[bi,hi,nj,nj2,hca,ints_len];refine dcall_is (itself_ok _ _ _) rfl ?_;simp(disch:=omega)[hcb,ints_len];refine dcall_is (itself_ok _ _ _) rfl ?_;simp(disch:=omega)[b1,c1];apply hK;clear hK K;apply aw_ift rfl;refine aw_reg fun K hK=>?_;simp(disch:=omega)[ints_len];refine acall_is (cA (i+j) i out hi (by omega) h5) ?_;simp(disch:=omega) ;apply hK;clear hK K;refine aw_reg0 fun K hK=>?_;simp(disch:=omega) ;apply hK;clear hK K;refine⟨(n-1,i+1,j,fA out (a.getD i 0)),⟨by show i+1≤a.length;omega,by show j≤b.length;omega,by show (a.length-(i+1))+(b.length-(j))≤n-1;omega,h4.trans hst,(show I (i+1+j) _ by rw[show i+1+j=i+j+1 by omega];exact iA _ i out hi h5)⟩,by show n-1<n;omega,?_⟩;refine weak_to [] [] ?_ ?_ ?_ ?_ (hok _ _ ((show I (i+1+j) _ by rw[show i+1+j=i+j+1 by omega];exact iA _ i out hi h5))) ?_
     ·simp
     ·simp
     ·simp[hS]
     ·simp[hU]
     ·simp[hS,hU,hbc]
      try omega
    ·have b1:decide (a.getD i 0<b.getD j 0)=false:=by simpa using c1
     refine aw_draw [] [] [] drawMixed (by kernel_rfl) (by kernel_rfl) fun K hK=>?_;simp(disch:=omega)[bi,hi,nj,nj2,hca,ints_len];refine dcall_is (itself_ok _ _ _) rfl ?_;simp(disch:=omega)[hcb,ints_len];refine dcall_is (itself_ok _ _ _) rfl ?_;simp(disch:=omega)[b1,c1];apply hK;clear hK K;apply aw_iff rfl
     by_cases c2:b.getD j 0<a.getD i 0
     ·have b2:decide (b.getD j 0<a.getD i 0)=true:=by simpa using c2
      have hst:=MI_B (fA:=fA) (fB:=fB) (fAB:=fAB) (o:=out) hn hi hj c1 c2;refine aw_draw [] [] [] drawMixed (by kernel_rfl) (by kernel_rfl) fun K hK=>?_;simp(disch:=omega)[ni,ni2,hcb,ints_len,hj];refine dcall_is (itself_ok _ _ _) rfl ?_;simp(disch:=omega)[hca,ints_len];refine dcall_is (itself_ok _ _ _) rfl ?_;simp(disch:=omega)[b2,c2];apply hK;clear hK K;apply aw_ift rfl;refine aw_reg fun K hK=>?_;simp(disch:=omega)[ints_len];refine acall_is (cB (i+j) j out hj (by omega) h5) ?_;simp(disch:=omega) ;apply hK;clear hK K;refine aw_reg0 fun K hK=>?_;simp(disch:=omega) ;apply hK;clear hK K;refine⟨(n-1,i,j+1,fB out (b.getD j 0)),⟨by show i≤a.length;omega,by show j+1≤b.length;omega,by show (a.length-(i))+(b.length-(j+1))≤n-1;omega,h4.trans hst,(show I (i+(j+1)) _ from iB _ j out hj h5)⟩,by show n-1<n;omega,?_⟩;refine weak_to [] [] ?_ ?_ ?_ ?_ (hok _ _ ((show I (i+(j+1)) _ from iB _ j out hj h5))) ?_
      ·simp
      ·simp
      ·simp[hS]
      ·simp[hU]
      ·simp[hS,hU,hbc]
       try omega
     ·have b2:decide (b.getD j 0<a.getD i 0)=false:=by simpa using c2
      have hst:=MI_AB (fA:=fA) (fB:=fB) (fAB:=fAB) (o:=out) hn hi hj c1 c2;refine aw_draw [] [] [] drawMixed (by kernel_rfl) (by kernel_rfl) fun K hK=>?_;simp(disch:=omega)[ni,ni2,hcb,ints_len,hj];refine dcall_is (itself_ok _ _ _) rfl ?_;simp(disch:=omega)[hca,ints_len];refine dcall_is (itself_ok _ _ _) rfl ?_;simp(disch:=omega)[b2,c2];apply hK;clear hK K;apply aw_iff rfl;refine aw_draw [7] [0,0,0,0,0,0,0,0] [[]] drawMixed (by kernel_rfl) (by kernel_rfl) fun K hK=>?_;simp(disch:=omega)[ints_len,hi,hj];refine dcall_eff (cAB (i+j) i j out hi hj (by omega) h5) rfl ?_;simp(disch:=omega) ;apply hK;clear hK K;refine aw_reg0 fun K hK=>?_;simp(disch:=omega) ;apply hK;clear hK K;refine⟨(n-1,i+1,j+1,fAB out (a.getD i 0) (b.getD j 0)),⟨by show i+1≤a.length;omega,by show j+1≤b.length;omega,by show (a.length-(i+1))+(b.length-(j+1))≤n-1;omega,h4.trans hst,(show I (i+1+(j+1)) _ by rw[show i+1+(j+1)=i+j+2 by omega];exact iAB _ i j out hi hj h5)⟩,by show n-1<n;omega,?_⟩;refine weak_to [] [] ?_ ?_ ?_ ?_ (hok _ _ ((show I (i+1+(j+1)) _ by rw[show i+1+(j+1)=i+j+2 by omega];exact iAB _ i j out hi hj h5))) ?_
      ·simp
      ·simp
      ·simp[hS]
      ·simp[hU]
      ·simp[hS,hU,hbc]
       try omega
   ·have bj:decide ((j:Int)<b.length)=false:=by simp;omega
    have hjb:j=b.length:=by omega
    have nj:((j:Int)==b.length)=true:=by simp;omega
    have hn:0<n:=by omega
    have hst:=MI_A0 (fA:=fA) (fB:=fB) (fAB:=fAB) (o:=out) hn hi hjb;refine aw_then fun K2 hK2=>?_;refine aw_reg fun K hK=>?_;simp(disch:=omega)[bi,bj,hi,hj];apply hK;clear hK K;apply aw_ift rfl;apply aw_skip;simp(disch:=omega) ;apply hK2;clear hK2;apply aw_block;apply aw_block;have hjz:(j:Int)=(b.length:Int):=by omega
    refine aw_draw [] [] [] drawMixed (by kernel_rfl) (by kernel_rfl) fun K hK=>?_;simp(disch:=omega)[nj,hjz];apply hK;clear hK K;apply aw_ift rfl;refine aw_reg fun K hK=>?_;simp(disch:=omega)[ints_len];refine acall_is (cA (i+j) i out hi (by omega) h5) ?_;simp(disch:=omega) ;apply hK;clear hK K;refine aw_reg0 fun K hK=>?_;simp(disch:=omega) ;apply hK;clear hK K;refine⟨(n-1,i+1,j,fA out (a.getD i 0)),⟨by show i+1≤a.length;omega,by show j≤b.length;omega,by show (a.length-(i+1))+(b.length-(j))≤n-1;omega,h4.trans hst,(show I (i+1+j) _ by rw[show i+1+j=i+j+1 by omega];exact iA _ i out hi h5)⟩,by show n-1<n;omega,?_⟩;refine weak_to [] [] ?_ ?_ ?_ ?_ (hok _ _ ((show I (i+1+j) _ by rw[show i+1+j=i+j+1 by omega];exact iA _ i out hi h5))) ?_
    ·simp
    ·simp
    ·simp[hS]
    ·simp[hU]
    ·simp[hS,hU,hbc]
     try omega
  ·have bi:decide ((i:Int)<a.length)=false:=by simp;omega
   have hia:i=a.length:=by omega
   by_cases hj:j<b.length
   ·have bj:decide ((j:Int)<b.length)=true:=by simp;omega
    have nj:((j:Int)==b.length)=false:=by rw[beq_eq_false_iff_ne];omega
    have nj2:¬j=b.length:=by omega
    have ni:((i:Int)==a.length)=true:=by simp;omega
    have hn:0<n:=by omega
    have hst:=MI_B0 (fA:=fA) (fB:=fB) (fAB:=fAB) (o:=out) hn hia hj;refine aw_then fun K2 hK2=>?_;refine aw_reg fun K hK=>?_;simp(disch:=omega)[bi,bj,hi,hj];apply hK;clear hK K;apply aw_ift rfl;apply aw_skip;simp(disch:=omega) ;apply hK2;clear hK2;apply aw_block;apply aw_block;refine aw_draw [] [] [] drawMixed (by kernel_rfl) (by kernel_rfl) fun K hK=>?_;simp(disch:=omega)[nj,nj2,bi,hi];apply hK;clear hK K;apply aw_iff rfl;have hiz:(i:Int)=(a.length:Int):=by omega
    refine aw_draw [] [] [] drawMixed (by kernel_rfl) (by kernel_rfl) fun K hK=>?_;simp(disch:=omega)[ni,hiz];apply hK;clear hK K;apply aw_ift rfl;refine aw_reg fun K hK=>?_;simp(disch:=omega)[ints_len];refine acall_is (cB (i+j) j out hj (by omega) h5) ?_;simp(disch:=omega) ;apply hK;clear hK K;refine aw_reg0 fun K hK=>?_;simp(disch:=omega) ;apply hK;clear hK K;refine⟨(n-1,i,j+1,fB out (b.getD j 0)),⟨by show i≤a.length;omega,by show j+1≤b.length;omega,by show (a.length-(i))+(b.length-(j+1))≤n-1;omega,h4.trans hst,(show I (i+(j+1)) _ from iB _ j out hj h5)⟩,by show n-1<n;omega,?_⟩;refine weak_to [] [] ?_ ?_ ?_ ?_ (hok _ _ ((show I (i+(j+1)) _ from iB _ j out hj h5))) ?_
    ·simp
    ·simp
    ·simp[hS]
    ·simp[hU]
    ·simp[hS,hU,hbc]
     try omega
   ·have bj:decide ((j:Int)<b.length)=false:=by simp;omega
    have hend:=MI_end (fA:=fA) (fB:=fB) (fAB:=fAB) (a:=a) (b:=b) (o:=out) (n:=n) hia (show j=b.length by omega);rw[hend] at h4;refine aw_then fun K2 hK2=>?_;refine aw_reg fun K hK=>?_;simp(disch:=omega)[bi,bj,hi,hj];apply hK;clear hK K;apply aw_iff rfl;apply aw_exit;simp(disch:=omega) ;rw[h4];exact⟨rfl,rfl,rfl⟩
attribute [-simp] List.getD_eq_getElem?_getD in
theorem cloneI_ok (l:List Int)(hl:l.length≤5000)(H:List Blk)(T:Toks):ACall Tryz.prog 146 [.sl l.length (ints l) .none] H T (Is (.sl l.length (ints l) .none) H T):=by
 refine ACall.cut H T (Nat.le_refl _) (Nat.le_refl _) id (by simp) ?_;refine acall_enter 3 [] Tryz.ntmps146 Tryz.func146 rfl (fun _ _=>Tryz.call146 _ _) (by simp) (fun HO=>?_);apply aw_reg;intro K h;simp(disch:=omega);apply h;clear h K;refine aw_then fun K1 hK1=>?_;refine aw_reg fun K hK=>?_;simp(disch:=omega) ;refine⟨hK _ ?_,fun he=>hK _ ?_⟩
 ·apply aw_iff rfl;apply aw_skip;simp(disch:=omega) ;apply hK1;clear hK1;apply aw_reg;intro K h;simp(disch:=omega);apply h;clear h K;apply aw_ret;simp(disch:=omega) 
 ·apply aw_ift rfl;apply aw_reg;intro K h;simp(disch:=omega);apply h;clear h K;apply aw_ret;simp(disch:=omega)[he]
def SJ (H:List Blk)(out:List Int)(tk:Nat):List Blk:=H++[.cells [.sl out.length (ints out) (.own tk)]]
def TJ (T:Toks)(out:List Int):Toks:=T++[(out.length,1)]
theorem SJ_len (H:List Blk)(out:List Int)(tk:Nat):(SJ H out tk).length=H.length+1:=by simp[SJ]
theorem TJ_len (T:Toks)(out:List Int):(TJ T out).length=T.length+1:=by simp[TJ]
theorem hok_SJ {H:List Blk}{T:Toks}(h:HOk H T)(out:List Int):HOk (SJ H out T.length) (TJ T out):=HOk.snoc (h.toks (by rw[TJ_len];omega)) (by simp[TJ_len])
attribute [-simp] List.getD_eq_getElem?_getD in
theorem joinA_ok (a:List Int)(i:Nat)(hi:i<a.length)(v:AV)(out:List Int)(ho:out.length≤5000)(H:List Blk)(T:Toks) :
  ACall Tryz.prog 183 [.vptr (ints a) i,v,.ptr H.length 0] (SJ H out T.length) (TJ T out) (Is (.tup []) (SJ H (out++[a.getD i 0]) T.length) (TJ T (out++[a.getD i 0]))):=by
 have hgp:=getD_ints (xs:=a) (k:=i) hi;have hsn:=ints_snoc out (a.getD i 0);simp only[SJ,TJ];refine acall_enter 5 [] Tryz.ntmps183 Tryz.func183 rfl (fun _ _=>Tryz.call183 _ _) (by simp) (fun HO=>?_);refine aw_then fun K1 hK1=>?_;apply aw_reg;intro K h;simp(disch:=omega);apply h;clear h K;apply aw_iff rfl;apply aw_skip;simp(disch:=omega) ;apply hK1;clear hK1;refine aw_draw0 [5,6] [0,0,0,0,0,0,1] [[],[]] drawMixed (by kernel_rfl) (by kernel_rfl) fun K hK=>?_;simp(disch:=omega)[hgp,hsn,hi];apply hK;clear hK K;exact⟨rfl,by simp,by simp⟩
attribute [-simp] List.getD_eq_getElem?_getD in
theorem joinB_ok (b:List Int)(j:Nat)(hj:j<b.length)(out:List Int)(ho:out.length≤5000)(H:List Blk)(T:Toks) :
  ACall Tryz.prog 183 [.nilp,.vptr (ints b) j,.ptr H.length 0] (SJ H out T.length) (TJ T out) (Is (.tup []) (SJ H (out++[b.getD j 0]) T.length) (TJ T (out++[b.getD j 0]))):=by
 have hgp:=getD_ints (xs:=b) (k:=j) hj;have hsn:=ints_snoc out (b.getD j 0);simp only[SJ,TJ];refine acall_enter 5 [] Tryz.ntmps183 Tryz.func183 rfl (fun _ _=>Tryz.call183 _ _) (by simp) (fun HO=>?_);refine aw_then fun K1 hK1=>?_;apply aw_reg;intro K h;simp(disch:=omega);apply h;clear h K;apply aw_ift rfl;refine aw_reg0 fun K hK=>?_;simp(disch:=omega) ;apply hK;clear hK K;apply hK1;clear hK1;refine aw_draw0 [5,6] [0,0,0,0,0,0,1] [[],[]] drawMixed (by kernel_rfl) (by kernel_rfl) fun K hK=>?_;simp(disch:=omega)[hgp,hsn,hj];apply hK;clear hK K;exact⟨rfl,by simp,by simp⟩
def jn (a b:List Int):List Int:=MG (fun _ _=>true) a b (a.length+b.length) 0 0 []
theorem mgI_mgN (fA fB:List Int→Int→List Int):∀(n:Nat)(a b o:List Int),mgI fA fB (fun o x _=>fA o x) n a b o=mgN fA fB fA n a b o:=by
 intro n
 induction n with
 |zero=>intro a b o;rfl
 |succ n ih=>
  intro a b o
  cases a with
  |nil=>cases b with
   |nil=>rfl
   |cons y b=>exact ih _ _ _
  |cons x a=>cases b with
   |nil=>exact ih _ _ _
   |cons y b=>simp only[mgI,mgN,ih]
attribute [-simp] List.getD_eq_getElem?_getD in
theorem joined_ok (a b:List Int)(ha:a.length≤1000)(hb:b.length≤1000)(H:List Blk)(T:Toks)(ta tb:Tag) :
  ACall Tryz.prog 147 [.sl a.length (ints a) ta,.sl b.length (ints b) tb] H T (Is (.sl (jn a b).length (ints (jn a b)) .none) H T):=by
 refine ACall.untag1 (ACall.untag2 ?_);refine ACall.drop' ?_ (by simp);have hres:MI (fun(o:List Int) x=>o++[x]) (fun o x=>o++[x]) (fun o x _=>o++[x]) a b (a.length+b.length) 0 0 []=jn a b:=mgI_mgN _ _ _ _ _ _;have c:=fun HO:HOk H T=>mergeI_ok (β:=List Int) 183 [.ptr H.length 0] (fun o x=>o++[x]) (fun o x=>o++[x]) (fun o x _=>o++[x])
  (fun o=>SJ H o T.length) (fun o=>TJ T o) (fun n o=>o.length≤n) (H.length+1) (T.length+1) [] a b ha hb (fun o=>SJ_len _ _ _) (fun o=>TJ_len _ _) (by simp)
  (fun n o _=>hok_SJ HO o) (Nat.zero_le _)
  (fun n i o hi hn h=>joinA_ok a i hi _ o (by omega) H T) (fun n j o hj hn h=>joinB_ok b j hj o (by omega) H T)
  (fun n i j o hi hj hn h=>joinA_ok a i hi _ o (by omega) H T)
  (fun n i o _ h=>by simp;omega) (fun n j o _ h=>by simp;omega) (fun n i j o _ _ h=>by simp;omega)
 rw[hres] at c;generalize jn a b=r at *;have k1:(SJ H r T.length)[H.length]?=some (.cells [.sl r.length (ints r) (.own T.length)]):=by simp[SJ]
 have hH:∃rH,SJ H r T.length=H++rH:=⟨_,rfl⟩
 have hT:∃rT,TJ T r=T++rT:=⟨_,rfl⟩
 refine acall_enter 6 [] Tryz.ntmps147 Tryz.func147 rfl (fun _ _=>Tryz.call147 _ _) (by simp) (fun HO=>?_);have c1:=c HO;apply aw_reg;intro K h;simp(disch:=omega);apply h;clear h K;apply aw_reg;intro K h;simp(disch:=omega);apply h;clear h K;refine aw_ownB 1 H 0 [] (by omega) (by simp) ?_;refine aw_reg fun K hK=>?_;simp(disch:=omega) ;refine acall_is (c1) ?_;simp(disch:=omega) ;apply hK;clear hK K;refine aw_reg fun K hK=>?_;simp(disch:=omega)[k1];apply hK;clear hK K;apply aw_ret;simp(disch:=omega) ;exact⟨hH,hT⟩
def jF (o:List Int)(x:Int):List Int:=if (fun _ _=>true:Bool→Bool→Bool) true false then o++[x] else o
theorem jn_spec {a b:List Int}(ha:Asc a)(hb:Asc b)(n:Nat)(hn:a.length+b.length≤n)(o:List Int):mgN jF jF jF n a b o=o++mgN jF jF jF n a b []∧
  (∀z,z∈mgN jF jF jF n a b []↔z∈a∨z∈b)∧Asc (mgN jF jF jF n a b []):=by
 obtain⟨g1,g2,g3⟩:=mg_keep true true true n a b o hn ha hb;refine⟨g1,fun z=>?_,g3⟩;refine(g2 z).trans ?_
 by_cases h1:z∈a<;>by_cases h2:z∈b<;>simp[h1,h2]
theorem jn_mem {a b:List Int}(ha:Asc a)(hb:Asc b)(z:Int):z∈jn a b↔z∈a∨z∈b:=(jn_spec ha hb _ (Nat.le_refl _) []).2.1 z
theorem jn_asc {a b:List Int}(ha:Asc a)(hb:Asc b):Asc (jn a b):=(jn_spec ha hb _ (Nat.le_refl _) []).2.2
theorem jn_fuel {a b:List Int}(ha:Asc a)(hb:Asc b){n:Nat}(hn:a.length+b.length≤n):mgN jF jF jF n a b []=jn a b:=by
 refine asc_ext _ _ (jn_spec ha hb n hn []).2.2 (jn_asc ha hb) fun z=>?_;rw[(jn_spec ha hb n hn []).2.1,jn_mem ha hb]
theorem jn_nilr {a:List Int}(ha:Asc a):jn a []=a:=asc_ext _ _ (jn_asc ha List.Pairwise.nil) ha fun z=>by rw[jn_mem ha List.Pairwise.nil];simp
theorem jn_nill {a:List Int}(ha:Asc a):jn [] a=a:=asc_ext _ _ (jn_asc List.Pairwise.nil ha) ha fun z=>by rw[jn_mem List.Pairwise.nil ha];simp
def un1 (a b:PL)(d:Int):Int×List Int:=(d,jn (posOf a d) (posOf b d))
def unL (a b:PL):PL:=(jn (docs a) (docs b)).map (un1 a b)
theorem docs_cons (p:Int×List Int)(l:PL):docs (p::l)=p.1::docs l:=rfl
theorem posOf_lt {l:PL}{d:Int}(h:∀p∈l,d<p.1):posOf l d=[]:=posOf_none fun p hp e=>by have:=h p hp;omega
theorem mgP_union:∀(n:Nat)(a b o:PL),a.length+b.length≤n→Asc' a→Asc' b→(∀p∈a,Asc p.2)→(∀p∈b,Asc p.2)→
  mgP (fun o x=>o++[x]) (fun o y=>o++[y]) (fun o x y=>o++[(x.1,jn x.2 y.2)]) n a b o=o++(mgN jF jF jF n (docs a) (docs b) []).map (un1 a b):=by
 intro n
 induction n with
 |zero=>
  intro a b o h _ _ _ _;have ha:a=[]:=List.eq_nil_of_length_eq_zero (by omega);subst ha;simp[mgP,mgN]
 |succ n ih=>
  intro a b o h ha hb pa pb;have step:∀(a' b':PL)(q:Int×List Int),Asc (docs a')→Asc (docs b')→(docs a').length+(docs b').length≤n→un1 a b q.1=q→(∀d,d∈docs a'∨d∈docs b'→un1 a' b' d=un1 a b d)→
    (o++[q])++(mgN jF jF jF n (docs a') (docs b') []).map (un1 a' b')=o++(mgN jF jF jF n (docs a') (docs b') [q.1]).map (un1 a b):=by
   intro a' b' q g1 g2 g3 g4 g5;obtain⟨k1,k2,_⟩:=jn_spec g1 g2 n g3 [q.1];rw[k1,List.map_append,List.append_assoc]
   congr 1
   have:(mgN jF jF jF n (docs a') (docs b') []).map (un1 a' b')=(mgN jF jF jF n (docs a') (docs b') []).map (un1 a b):=List.map_congr_left fun d hd=>g5 d ((k2 d).1 hd);rw[this];simp[g4]
  have hdl:∀l:PL,(docs l).length=l.length:=fun l=>by simp[docs]
  cases a with
  |nil=>
   cases b with
   |nil=>simp[mgP,mgN,docs]
   |cons y b=>
    obtain⟨h3,h4⟩:=asc'_tail hb;rw[mgP,ih [] b _ (by simp at h ⊢;omega) ha h3 pa (fun p hp=>pb p (by simp[hp])),step [] b y ha h3 (by rw[hdl,hdl];simp at h ⊢;omega)]
    ·rfl
    ·unfold un1;rw[posOf_cons_eq,show posOf [] y.1=[] from rfl,jn_nill (pb y (by simp))]
    ·intro d hd;have:y.1≠d:=by
      rcases hd with hd|hd
      ·simp[docs] at hd
      ·obtain⟨p,hp,e⟩:=List.mem_map.1 hd;have:=h4 p hp;omega
     unfold un1;rw[posOf_cons_ne this]
  |cons x a=>
   obtain⟨h1,h2⟩:=asc'_tail ha
   cases b with
   |nil=>
    rw[mgP,ih a [] _ (by simp at h ⊢;omega) h1 hb (fun p hp=>pa p (by simp[hp])) pb,step a [] x h1 hb (by rw[hdl,hdl];simp at h ⊢;omega)]
    ·rfl
    ·unfold un1;rw[posOf_cons_eq,show posOf [] x.1=[] from rfl,jn_nilr (pa x (by simp))]
    ·intro d hd;have:x.1≠d:=by
      rcases hd with hd|hd
      ·obtain⟨p,hp,e⟩:=List.mem_map.1 hd;have:=h2 p hp;omega
      ·simp[docs] at hd
     unfold un1;rw[posOf_cons_ne this]
   |cons y b=>
    obtain⟨h3,h4⟩:=asc'_tail hb;simp only[List.length_cons] at h;rw[docs_cons x a,docs_cons y b]
    by_cases c1:x.1<y.1
    ·have hyb:∀p∈y::b,x.1<p.1:=fun p hp=>by
      rcases List.mem_cons.1 hp with rfl|hp
      ·exact c1
      ·have:=h4 p hp;omega
     rw[mgP,if_pos c1,ih a (y::b) _ (by simp;omega) h1 hb (fun p hp=>pa p (by simp[hp])) pb,step a (y::b) x h1 hb (by rw[hdl,hdl];simp;omega),mgN,if_pos c1]
     ·rfl
     ·unfold un1;rw[posOf_cons_eq,posOf_lt hyb,jn_nilr (pa x (by simp))]
     ·intro d hd;have:x.1≠d:=by
       rcases hd with hd|hd
       ·obtain⟨p,hp,e⟩:=List.mem_map.1 hd;have:=h2 p hp;omega
       ·obtain⟨p,hp,e⟩:=List.mem_map.1 hd;have:=hyb p hp;omega
      unfold un1;rw[posOf_cons_ne (l:=a) this]
    ·by_cases c2:y.1<x.1
     ·have hxa:∀p∈x::a,y.1<p.1:=fun p hp=>by
       rcases List.mem_cons.1 hp with rfl|hp
       ·exact c2
       ·have:=h2 p hp;omega
      rw[mgP,if_neg c1,if_pos c2,ih (x::a) b _ (by simp;omega) ha h3 pa (fun p hp=>pb p (by simp[hp])),step (x::a) b y ha h3 (by rw[hdl,hdl];simp;omega),mgN,if_neg c1,if_pos c2]
      ·rfl
      ·unfold un1;rw[posOf_cons_eq,posOf_lt hxa,jn_nill (pb y (by simp))]
      ·intro d hd;have:y.1≠d:=by
        rcases hd with hd|hd
        ·obtain⟨p,hp,e⟩:=List.mem_map.1 hd;have:=hxa p hp;omega
        ·obtain⟨p,hp,e⟩:=List.mem_map.1 hd;have:=h4 p hp;omega
       unfold un1;rw[posOf_cons_ne (l:=b) this]
     ·have e:x.1=y.1:=by omega
      rw[mgP,if_neg c1,if_neg c2,ih a b _ (by omega) h1 h3 (fun p hp=>pa p (by simp[hp])) (fun p hp=>pb p (by simp[hp])),step a b (x.1,jn x.2 y.2) h1 h3 (by rw[hdl,hdl];omega),mgN,if_neg c1,if_neg c2]
      ·rfl
      ·unfold un1;rw[posOf_cons_eq,e,posOf_cons_eq]
      ·intro d hd;have:x.1≠d:=by
        rcases hd with hd|hd
        ·obtain⟨p,hp,e⟩:=List.mem_map.1 hd;have:=h2 p hp;omega
        ·obtain⟨p,hp,e⟩:=List.mem_map.1 hd;have:=h4 p hp;omega
       unfold un1;rw[posOf_cons_ne (l:=a) this,posOf_cons_ne (l:=b) (by omega)]
theorem mgP_unL {a b:PL}(ha:Asc' a)(hb:Asc' b)(pa:∀p∈a,Asc p.2)(pb:∀p∈b,Asc p.2):mgP (fun o x=>o++[x]) (fun o y=>o++[y]) (fun o x y=>o++[(x.1,jn x.2 y.2)]) (a.length+b.length) a b []=unL a b:=by
 rw[mgP_union _ a b [] (Nat.le_refl _) ha hb pa pb,List.nil_append,jn_fuel (a:=docs a) (b:=docs b) ha hb (by simp[docs])];rfl
def SU (H:List Blk)(out:PL)(tk:Nat):List Blk:=H++[.cells [.sl out.length (psAV out) (.own tk)]]
theorem SU_len (H:List Blk)(out:PL)(tk:Nat):(SU H out tk).length=H.length+1:=by simp[SU]
theorem hok_SU {H:List Blk}{T:Toks}(h:HOk H T)(out:PL):HOk (SU H out T.length) (STp T out):=HOk.snoc (h.toks (by rw[STp_len];omega)) (by simp[STp_len])
attribute [-simp] List.getD_eq_getElem?_getD in
theorem unA_ok (a:PL)(i:Nat)(hi:i<a.length)(ha:(a.getD i (0,[])).2.length≤5000)(out:PL)(ho:out.length≤5000)(H:List Blk)(T:Toks) :
  ACall Tryz.prog 145 [.vptr (psAV a) (i*2),.nilp,.ptr H.length 0] (SU H out T.length) (STp T out) (Is (.tup []) (SU H (out++[a.getD i (0,[])]) T.length) (STp T (out++[a.getD i (0,[])]))):=by
 have hia:=psAV_at a i hi;have c:=cloneI_ok (a.getD i (0,[])).2 ha (SU H out T.length) (STp T out);have hps:=psAV_snoc out (a.getD i (0,[])).1 (a.getD i (0,[])).2;rw[show ((a.getD i (0,[])).1,(a.getD i (0,[])).2)=a.getD i (0,[]) from rfl] at hps;generalize a.getD i (0,[])=x at *;simp only[SU,STp] at c ⊢;refine acall_enter 3 [] Tryz.ntmps145 Tryz.func145 rfl (fun _ _=>Tryz.call145 _ _) (by simp) (fun HO=>?_);apply aw_block;apply aw_reg;intro K h;simp(disch:=omega);apply h;clear h K;apply aw_iff rfl;apply aw_reg;intro K h;simp(disch:=omega);apply h;clear h K;apply aw_ift rfl;refine aw_draw0 [12,13] [0,0,0,0,0,0,0,0,0,0,0,0,0,1] [[],[]] drawMixed (by kernel_rfl) (by kernel_rfl) fun K hK=>?_;simp(disch:=omega)[hia.1,hia.2,psAV_len,hps,hi];refine dcall_is (c) rfl ?_;simp(disch:=omega)[hia.1,hia.2,psAV_len,hps,hi];apply hK;clear hK K;exact⟨rfl,by simp,by simp⟩
attribute [-simp] List.getD_eq_getElem?_getD in
theorem unB_ok (b:PL)(j:Nat)(hj:j<b.length)(hb:(b.getD j (0,[])).2.length≤5000)(out:PL)(ho:out.length≤5000)(H:List Blk)(T:Toks) :
  ACall Tryz.prog 145 [.nilp,.vptr (psAV b) (j*2),.ptr H.length 0] (SU H out T.length) (STp T out) (Is (.tup []) (SU H (out++[b.getD j (0,[])]) T.length) (STp T (out++[b.getD j (0,[])]))):=by
 have hia:=psAV_at b j hj;have c:=cloneI_ok (b.getD j (0,[])).2 hb (SU H out T.length) (STp T out);have hps:=psAV_snoc out (b.getD j (0,[])).1 (b.getD j (0,[])).2;rw[show ((b.getD j (0,[])).1,(b.getD j (0,[])).2)=b.getD j (0,[]) from rfl] at hps;generalize b.getD j (0,[])=x at *;simp only[SU,STp] at c ⊢;refine acall_enter 3 [] Tryz.ntmps145 Tryz.func145 rfl (fun _ _=>Tryz.call145 _ _) (by simp) (fun HO=>?_);apply aw_block;apply aw_reg;intro K h;simp(disch:=omega);apply h;clear h K;apply aw_ift rfl;refine aw_draw0 [12,13] [0,0,0,0,0,0,0,0,0,0,0,0,0,1] [[],[]] drawMixed (by kernel_rfl) (by kernel_rfl) fun K hK=>?_;simp(disch:=omega)[hia.1,hia.2,psAV_len,hps,hj];refine dcall_is (c) rfl ?_;simp(disch:=omega)[hia.1,hia.2,psAV_len,hps,hj];apply hK;clear hK K;exact⟨rfl,by simp,by simp⟩
attribute [-simp] List.getD_eq_getElem?_getD in
theorem unAB_ok (a b:PL)(i j:Nat)(hi:i<a.length)(hj:j<b.length)(ha:(a.getD i (0,[])).2.length≤1000)(hb:(b.getD j (0,[])).2.length≤1000)(out:PL)(ho:out.length≤5000)(H:List Blk)(T:Toks) :
  ACall Tryz.prog 145 [.vptr (psAV a) (i*2),.vptr (psAV b) (j*2),.ptr H.length 0] (SU H out T.length) (STp T out) (Is (.tup []) (SU H (out++[((a.getD i (0,[])).1,jn (a.getD i (0,[])).2 (b.getD j (0,[])).2)]) T.length) (STp T (out++[((a.getD i (0,[])).1,jn (a.getD i (0,[])).2 (b.getD j (0,[])).2)]))):=by
 have hia:=psAV_at a i hi;have hjb:=psAV_at b j hj;have c:=joined_ok (a.getD i (0,[])).2 (b.getD j (0,[])).2 ha hb (SU H out T.length) (STp T out) .none .none;have hps:=psAV_snoc out (a.getD i (0,[])).1 (jn (a.getD i (0,[])).2 (b.getD j (0,[])).2);generalize a.getD i (0,[])=x at *;generalize b.getD j (0,[])=y at *;generalize jn x.2 y.2=r at *;simp only[SU,STp] at c ⊢;refine acall_enter 3 [] Tryz.ntmps145 Tryz.func145 rfl (fun _ _=>Tryz.call145 _ _) (by simp) (fun HO=>?_);apply aw_block;apply aw_reg;intro K h;simp(disch:=omega);apply h;clear h K;apply aw_iff rfl;apply aw_reg;intro K h;simp(disch:=omega);apply h;clear h K;apply aw_iff rfl;refine aw_draw0 [16,17] [0,0,0,0,0,0,0,0,0,0,0,0,0,0,0,0,0,1] [[],[]] drawMixed (by kernel_rfl) (by kernel_rfl) fun K hK=>?_;simp(disch:=omega)[hia.1,hia.2,hjb.1,hjb.2,psAV_len,hps,hi,hj];refine dcall_is (c) rfl ?_;simp(disch:=omega)[hia.1,hia.2,psAV_len,hps,hi];apply hK;clear hK K;exact⟨rfl,by simp,by simp⟩
def unionL (a b:PL):PL:=if validL a=true∧validL b=true then unL a b else []
attribute [-simp] List.getD_eq_getElem?_getD in
theorem union_ok (a b:PL)(ha:a.length≤1000)(hb:b.length≤1000)(hpa:∀p∈a,p.2.length≤1000)(hpb:∀p∈b,p.2.length≤1000)(H:List Blk)(T:Toks)(ta tb:Tag) :
  ACall Tryz.prog 80 [.sl a.length (psAV a) ta,.sl b.length (psAV b) tb] H T (Is (.sl (unionL a b).length (psAV (unionL a b)) .none) H T):=by
 refine ACall.untag1 (ACall.untag2 ?_);refine ACall.drop' ?_ (by simp);have hml:1000≤maxLen:=by decide
 have c1:=valid_ok a (by omega) (fun p h=>Nat.le_trans (hpa p h) hml) (H++[.cells [.sl 0 [] .full]]) T .none;have c2:=valid_ok b (by omega) (fun p h=>Nat.le_trans (hpb p h) hml) (H++[.cells [.sl 0 [] .full]]) T .none;refine acall_enter 6 [] Tryz.ntmps80 Tryz.func80 rfl (fun _ _=>Tryz.call80 _ _) (by simp) (fun HO=>?_);apply aw_reg;intro K h;simp(disch:=omega);apply h;clear h K;apply aw_reg;intro K h;simp(disch:=omega);apply h;clear h K;refine aw_then fun K1 hK1=>?_
 cases hva:validL a with
 |false=>
  rw[hva] at c1;refine aw_reg fun K hK=>?_;simp(disch:=omega) ;refine acall_is (c1) ?_;simp(disch:=omega) ;apply hK;clear hK K;apply aw_ift rfl;apply aw_reg;intro K h;simp(disch:=omega);apply h;clear h K;apply aw_ret;simp(disch:=omega) ;simp[unionL,hva,psAV]
 |true=>
  rw[hva] at c1
  cases hvb:validL b with
  |false=>
   rw[hvb] at c2;refine aw_reg fun K hK=>?_;simp(disch:=omega) ;refine acall_is (c1) ?_;simp(disch:=omega) ;refine acall_is (c2) ?_;simp(disch:=omega) ;apply hK;clear hK K;apply aw_ift rfl;apply aw_reg;intro K h;simp(disch:=omega);apply h;clear h K;apply aw_ret;simp(disch:=omega) ;simp[unionL,hvb,psAV]
  |true=>
   rw[hvb] at c2;obtain⟨a1,a2,a3⟩:=validL_iff hva;obtain⟨e1,e2,e3⟩:=validL_iff hvb;have hr:unionL a b=unL a b:=by unfold unionL;rw[if_pos ⟨hva,hvb⟩]
   have hres:MP (fun o x=>o++[x]) (fun o y=>o++[y]) (fun o x y=>o++[(x.1,jn x.2 y.2)]) a b (a.length+b.length) 0 0 []=unL a b:=mgP_unL a1 e1 (fun p hp=>(a3 p hp).2.1) (fun p hp=>(e3 p hp).2.1);have c:=mergeP_ok (β:=PL) 145 [.ptr H.length 0] (fun o x=>o++[x]) (fun o y=>o++[y]) (fun o x y=>o++[(x.1,jn x.2 y.2)])
    (fun o=>SU H o T.length) (fun o=>STp T o) (fun n o=>o.length≤n) (H.length+1) (T.length+1) [] a b ha hb (fun o=>SU_len _ _ _) (fun o=>STp_len _ _) (by simp)
    (fun n o _=>hok_SU HO o) (Nat.zero_le _)
    (fun n i o hi hn h=>unA_ok a i hi (by have:=hpa _ (memD a i (0,[]) hi);omega) o (by omega) H T) (fun n j o hj hn h=>unB_ok b j hj (by have:=hpb _ (memD b j (0,[]) hj);omega) o (by omega) H T)
    (fun n i j o hi hj hn h=>unAB_ok a b i j hi hj (hpa _ (memD a i _ hi)) (hpb _ (memD b j _ hj)) o (by omega) H T)
    (fun n i o _ h=>by simp;omega) (fun n j o _ h=>by simp;omega) (fun n i j o _ _ h=>by simp;omega)
   rw[hres,←hr] at c;generalize unionL a b=r at *;have k1:(SU H r T.length)[H.length]?=some (.cells [.sl r.length (psAV r) (.own T.length)]):=by simp[SU]
   have hH:∃rH,SU H r T.length=H++rH:=⟨_,rfl⟩
   have hT:∃rT,STp T r=T++rT:=⟨_,rfl⟩
   refine aw_reg fun K hK=>?_;simp(disch:=omega) ;refine acall_is (c1) ?_;simp(disch:=omega) ;refine acall_is (c2) ?_;simp(disch:=omega) ;apply hK;clear hK K;apply aw_iff rfl;apply aw_skip;simp(disch:=omega) ;apply hK1;clear hK1;refine aw_ownB 2 H 0 [] (by omega) (by simp) ?_;refine aw_reg fun K hK=>?_;simp(disch:=omega) ;refine acall_is (c) ?_;simp(disch:=omega) ;apply hK;clear hK K;refine aw_reg fun K hK=>?_;simp(disch:=omega)[k1];apply hK;clear hK K;apply aw_ret;simp(disch:=omega) ;exact⟨hH,hT⟩
def docsL (l:PL):List Int:=if validL l=true then docs l else []
attribute [-simp] List.getD_eq_getElem?_getD in
theorem docsP_ok (l:PL)(hl:l.length≤5000)(hp:∀p∈l,p.2.length≤maxLen)(H:List Blk)(T:Toks)(tg:Tag) :
  ACall Tryz.prog 56 [.sl l.length (psAV l) tg] H T (Is (.sl (docsL l).length (ints (docsL l)) .none) H T):=by
 refine ACall.untag1 ?_;refine ACall.drop' ?_ (by simp);have c1:=valid_ok l hl hp H T .none;have c2:=documents_ok l hl H T .none;refine acall_enter 3 [] Tryz.ntmps56 Tryz.func56 rfl (fun _ _=>Tryz.call56 _ _) (by simp) (fun HO=>?_);apply aw_reg;intro K h;simp(disch:=omega);apply h;clear h K;refine aw_then fun K1 hK1=>?_
 cases hv:validL l with
 |false=>
  rw[hv] at c1;refine aw_reg fun K hK=>?_;simp(disch:=omega) ;refine acall_is (c1) ?_;simp(disch:=omega) ;apply hK;clear hK K;apply aw_ift rfl;apply aw_reg;intro K h;simp(disch:=omega);apply h;clear h K;apply aw_ret;simp(disch:=omega) ;simp[docsL,hv,ints]
 |true=>
  rw[hv] at c1;have hd:(docsL l)=docs l:=by unfold docsL;rw[if_pos hv]
  refine aw_reg fun K hK=>?_;simp(disch:=omega) ;refine acall_is (c1) ?_;simp(disch:=omega) ;apply hK;clear hK K;apply aw_iff rfl;apply aw_skip;simp(disch:=omega) ;apply hK1;clear hK1;refine aw_reg fun K hK=>?_;simp(disch:=omega) ;refine acall_is (c2) ?_;simp(disch:=omega) ;apply hK;clear hK K;apply aw_ret;simp(disch:=omega) ;rw[hd];simp[docs]
attribute [-simp] List.getD_eq_getElem?_getD in
theorem docsRR_ok (l:PL)(hl:l.length≤5000)(hp:∀p∈l,p.2.length≤maxLen)(H:List Blk)(T:Toks)(tg:Tag) :
  ACall Tryz.prog 137 [.sl l.length (psAV l) tg] H T (Is (.sl (docsL l).length (ints (docsL l)) .none) H T):=by
 refine ACall.untag1 ?_;refine ACall.drop' ?_ (by simp);have c1:=validR_ok l hl hp H T .none;have c2:=docsR_ok l hl H T .none;refine acall_enter 3 [] Tryz.ntmps137 Tryz.func137 rfl (fun _ _=>Tryz.call137 _ _) (by simp) (fun HO=>?_);apply aw_reg;intro K h;simp(disch:=omega);apply h;clear h K;refine aw_then fun K1 hK1=>?_
 cases hv:validL l with
 |false=>
  rw[hv] at c1;refine aw_reg fun K hK=>?_;simp(disch:=omega) ;refine acall_is (c1) ?_;simp(disch:=omega) ;apply hK;clear hK K;apply aw_ift rfl;apply aw_reg;intro K h;simp(disch:=omega);apply h;clear h K;apply aw_ret;simp(disch:=omega) ;simp[docsL,hv,ints]
 |true=>
  rw[hv] at c1;have hd:(docsL l)=docs l:=by unfold docsL;rw[if_pos hv]
  refine aw_reg fun K hK=>?_;simp(disch:=omega) ;refine acall_is (c1) ?_;simp(disch:=omega) ;apply hK;clear hK K;apply aw_iff rfl;apply aw_skip;simp(disch:=omega) ;apply hK1;clear hK1;refine aw_reg fun K hK=>?_;simp(disch:=omega) ;refine acall_is (c2) ?_;simp(disch:=omega) ;apply hK;clear hK K;apply aw_ret;simp(disch:=omega) ;rw[hd];simp[docs]
def seekN (l:PL)(d:Int):Nat:=(l.takeWhile (fun p=>decide (p.1<d))).length
theorem seekN_le (l:PL)(d:Int):seekN l d≤l.length:=(List.takeWhile_sublist _).length_le
theorem seekN_lt {l:PL}(h:Asc' l)(d:Int):∀j,j<l.length→((l.getD j (0,[])).1<d↔j<seekN l d):=by
 induction l with
 |nil=>intro j hj;simp at hj
 |cons p l ih=>
  obtain⟨h1,h2⟩:=asc'_tail h;intro j hj;unfold seekN
  by_cases hp:p.1<d
  ·rw[List.takeWhile_cons_of_pos (by simpa using hp)]
   cases j with
   |zero=>simp[hp]
   |succ j=>
    have:=ih h1 j (by simpa using hj);unfold seekN at this;simp only[List.getD_cons_succ,List.length_cons];omega
  ·rw[List.takeWhile_cons_of_neg (by simpa using hp)]
   cases j with
   |zero=>simp;omega
   |succ j=>
    have:=h2 _ (memD l j (0,[]) (by simpa using hj));simp only[List.getD_cons_succ,List.length_nil];omega
attribute [-simp] List.getD_eq_getElem?_getD in
theorem seek_ok (l:PL)(f0:Nat)(d:Int)(hl:l.length≤5000)(hs:Asc' l)(hf:f0≤seekN l d)(H:List Blk)(T:Toks) :
  ACall Tryz.prog 148 [.sl l.length (psAV l) .none,.int .i64 (f0:Nat),.int .i64 d] H T (Is (.int .i64 (seekN l d:Nat)) H T):=by
 have hle:=seekN_le l d;have hlt:=seekN_lt hs d;generalize seekN l d=N at *;refine acall_enter 8 [] Tryz.ntmps148 Tryz.func148 rfl (fun _ _=>Tryz.call148 _ _) (by simp) (fun HO=>?_);apply aw_reg;intro K h;simp(disch:=omega);apply h;clear h K;apply aw_reg;intro K h;simp(disch:=omega);apply h;clear h K;refine aw_then fun K1 hK1=>?_;apply aw_block;refine aw_loop (X:=Nat×Nat) (fun x=>⟨[(0,.sl l.length (psAV l) .none),(1,.int .i64 (x.1:Nat)),(2,.int .i64 d),(7,.int .i64 (x.2:Nat))],H,T⟩) (fun x=>x.1≤N∧x.2≤x.1+1∧∃k,x.2=2 ^ k) (fun x=>l.length-x.1) (f0,1) ?_ ?_ ?_
 ·exact⟨hf,by simp,0,rfl⟩
 ·refine weak_to [] [] ?_ ?_ ?_ ?_ HO ?_
  all_goals simp
 ·rintro⟨f,s⟩ ⟨h1,h2,k,h3⟩;simp only at h1 h2 h3;have hspos:0<s:=by rw[h3];exact Nat.two_pow_pos k
  have fin:N<f+s→∀e,envLe H.length T.length e [(0,.sl l.length (psAV l) .none),(1,.int .i64 (f:Nat)),(2,.int .i64 d),(7,.int .i64 (s:Nat))]→K1 ⟨e,H,T⟩:=fun hN e he=>by
   refine hK1 _ (aw_weak ⟨[(0,.sl l.length (psAV l) .none),(1,.int .i64 (f:Nat)),(2,.int .i64 d),(7,.int .i64 (s:Nat))],H,T⟩ (weak_to [] [] (by simp) (by simp) (by simp) (by simp) HO he) ?_);refine aw_then fun K5 hK5=>?_;apply aw_block;refine aw_loop (X:=Nat×Nat) (fun x=>⟨[(0,.sl l.length (psAV l) .none),(1,.int .i64 (x.1:Nat)),(2,.int .i64 d),(7,.int .i64 (x.2:Nat))],H,T⟩) (fun x=>x.1≤N∧x.2≤5001∧(x.2=0∧x.1=N∨(∃k,x.2=2 ^ k)∧N<x.1+2*x.2)) (fun x=>x.2) (f,s) ?_ ?_ ?_
   ·exact⟨h1,by simp only;omega,.inr ⟨⟨k,h3⟩,by simp only;omega⟩⟩
   ·refine weak_to [] [] ?_ ?_ ?_ ?_ HO ?_
    all_goals simp
   ·rintro⟨g,t⟩ ⟨g1,g2,g3⟩;simp only at g1 g2 g3;refine aw_then fun K6 hK6=>?_;apply aw_reg;intro K h;simp(disch:=omega);apply h;clear h K;rcases g3 with⟨g3,g4⟩|⟨⟨m,g3⟩,g4⟩
    ·subst g3;subst g4;apply aw_iff rfl;apply aw_exit;simp(disch:=omega) ;apply hK5;clear hK5;apply aw_reg;intro K h;simp(disch:=omega);apply h;clear h K;apply aw_ret;simp(disch:=omega) ;exact⟨rfl,rfl,rfl⟩
    ·have htpos:0<t:=by rw[g3];exact Nat.two_pow_pos m
     have hq:∀g':Nat,g'≤N→N<g'+t→(g'≤N∧t / 2≤5001∧(t / 2=0∧g'=N∨(∃k,t / 2=2 ^ k)∧N<g'+2*(t / 2))):=fun g' q1 q2=>by
      refine⟨q1,by omega,?_⟩
      cases m with
      |zero=>simp at g3;subst g3;exact .inl ⟨rfl,by omega⟩
      |succ m=>
       have e:t / 2=2 ^ m:=by rw[g3,Nat.pow_succ];omega
       refine .inr ⟨⟨m,e⟩,?_⟩;rw[e];rw[g3,Nat.pow_succ] at q2;omega
     have hdv:(t:Int) / 2=((t / 2:Nat):Int):=by omega
     refine aw_if rfl (fun h=>?_) (fun h=>absurd h (by simp;omega));apply aw_skip;simp(disch:=omega) ;apply hK6;clear hK6;refine aw_then fun K7 hK7=>?_;apply aw_block
     by_cases c1:g+t≤l.length
     ·have b1:decide ((g:Int)+t≤l.length)=true:=by simp;omega
      have ek:((g:Int)+t-1).toNat=g+t-1:=by omega
      have hat:=(psAV_at l (g+t-1) (by omega)).1;have hlt':=hlt (g+t-1) (by omega);have c1':((g:Int)+t≤l.length):=by omega
      by_cases c2:(l.getD (g+t-1) (0,[])).1<d
      ·have b2:decide ((l.getD (g+t-1) (0,[])).1<d)=true:=by simpa using c2
       have:=hlt'.1 c2;refine aw_reg fun K hK=>?_;simp(disch:=omega)[b1,c1',ek,hat,psAV_len,b2,c2];apply hK;clear hK K;apply aw_ift rfl;refine aw_reg0 fun K hK=>?_;simp(disch:=omega) ;apply hK;clear hK K;apply hK7;clear hK7;refine aw_reg0 fun K hK=>?_;simp(disch:=omega) ;apply hK;clear hK K;refine⟨(g+t,t / 2),hq (g+t) (by omega) (by omega),by show t / 2<t;omega,?_⟩;refine weak_to [] [] ?_ ?_ ?_ ?_ HO ?_
       all_goals simp
      ·have b2:decide ((l.getD (g+t-1) (0,[])).1<d)=false:=by simpa using c2
       have:¬g+t-1<N:=fun hh=>c2 (hlt'.2 hh);refine aw_reg fun K hK=>?_;simp(disch:=omega)[b1,c1',ek,hat,psAV_len,b2,c2];apply hK;clear hK K;apply aw_iff rfl;apply aw_skip;simp(disch:=omega) ;apply hK7;clear hK7;refine aw_reg0 fun K hK=>?_;simp(disch:=omega) ;apply hK;clear hK K;refine⟨(g,t / 2),hq g (by omega) (by omega),by show t / 2<t;omega,?_⟩;refine weak_to [] [] ?_ ?_ ?_ ?_ HO ?_
       all_goals simp
     ·have b1:decide ((g:Int)+t≤l.length)=false:=by simp;omega
      have c1':¬((g:Int)+t≤l.length):=by omega
      refine aw_reg fun K hK=>?_;simp(disch:=omega)[b1,c1'];apply hK;clear hK K;apply aw_iff rfl;apply aw_skip;simp(disch:=omega) ;apply hK7;clear hK7;refine aw_reg0 fun K hK=>?_;simp(disch:=omega) ;apply hK;clear hK K;refine⟨(g,t / 2),hq g (by omega) (by omega),by show t / 2<t;omega,?_⟩;refine weak_to [] [] ?_ ?_ ?_ ?_ HO ?_
      all_goals simp
  clear hK1;refine aw_then fun K2 hK2=>?_
  by_cases c1:f+s≤l.length
  ·have b1:decide ((f:Int)+s≤l.length)=true:=by simp;omega
   have c1':((f:Int)+s≤l.length):=by omega
   have ek:((f:Int)+s-1).toNat=f+s-1:=by omega
   have hat:=(psAV_at l (f+s-1) (by omega)).1;have hlt':=hlt (f+s-1) (by omega)
   by_cases c2:(l.getD (f+s-1) (0,[])).1<d
   ·have b2:decide ((l.getD (f+s-1) (0,[])).1<d)=true:=by simpa using c2
    have:=hlt'.1 c2;refine aw_reg fun K hK=>?_;simp(disch:=omega)[b1,c1',ek,hat,psAV_len,b2,c2];apply hK;clear hK K;apply aw_ift rfl;apply aw_skip;simp(disch:=omega) ;apply hK2;clear hK2;apply aw_block;apply aw_reg;intro K h;simp(disch:=omega);apply h;clear h K;refine aw_reg0 fun K hK=>?_;simp(disch:=omega) ;apply hK;clear hK K;refine⟨(f+s,s*2),⟨by show f+s≤N;omega,by show s*2≤f+s+1;omega,k+1,by show s*2=2 ^ (k+1);rw[h3,Nat.pow_succ]⟩,by show l.length-(f+s)<l.length-f;omega,?_⟩;refine weak_to [] [] ?_ ?_ ?_ ?_ HO ?_
    all_goals simp
   ·have b2:decide ((l.getD (f+s-1) (0,[])).1<d)=false:=by simpa using c2
    have:¬f+s-1<N:=fun hh=>c2 (hlt'.2 hh);refine aw_reg fun K hK=>?_;simp(disch:=omega)[b1,c1',ek,hat,psAV_len,b2,c2];apply hK;clear hK K;apply aw_iff rfl;apply aw_exit;simp(disch:=omega) ;exact fin (by omega) _ (by simp)
  ·have b1:decide ((f:Int)+s≤l.length)=false:=by simp;omega
   have c1':¬((f:Int)+s≤l.length):=by omega
   refine aw_reg fun K hK=>?_;simp(disch:=omega)[b1,c1'];apply hK;clear hK K;apply aw_iff rfl;apply aw_exit;simp(disch:=omega) ;exact fin (by omega) _ (by simp)
theorem docs_cons' (p:Int×List Int)(l:PL):docs (p::l)=p.1::docs l:=rfl
theorem recon {a:PL}(h:Asc' a):a=(docs a).map (fun d=>(d,posOf a d)):=by
 induction a with
 |nil=>rfl
 |cons p a ih=>
  obtain⟨h1,h2⟩:=asc'_tail h;have e:(docs a).map (fun d=>(d,posOf (p::a) d))=(docs a).map (fun d=>(d,posOf a d)):=List.map_congr_left fun d hd=>by
   obtain⟨q,hq,e⟩:=List.mem_map.1 hd;have:=h2 q hq;rw[posOf_cons_ne (by omega)]
  show p::a=(p.1,posOf (p::a) p.1)::(docs a).map (fun d=>(d,posOf (p::a) d));rw[e,←ih h1,posOf_cons_eq]
theorem ascP_ext {a b:PL}(ha:Asc' a)(hb:Asc' b)(h1:∀d,d∈docs a↔d∈docs b)(h2:∀d,d∈docs a→posOf a d=posOf b d):a=b:=by
 have e:docs a=docs b:=asc_ext _ _ ha hb h1;rw[recon ha,recon hb,←e];exact List.map_congr_left fun d hd=>by rw[h2 d hd]
def onP (l:PL)(ds:List Int):PL:=(ds.filter (fun d=>decide (d∈docs l))).map (fun d=>(d,posOf l d))
def onR (l:PL)(ds:List Int):PL:=l.filter (fun p=>decide (p.1∈ds))
theorem posOf_filter {l:PL}(h:Asc' l)(f:Int→Bool)(d:Int)(hf:f d=true):posOf (l.filter (fun p=>f p.1)) d=posOf l d:=by
 induction l with
 |nil=>rfl
 |cons p l ih=>
  obtain⟨h1,h2⟩:=asc'_tail h
  by_cases hp:f p.1=true
  ·rw[List.filter_cons_of_pos (p:=fun p:Int×List Int=>f p.1) hp];unfold posOf;rw[ih h1]
  ·rw[List.filter_cons_of_neg (p:=fun p:Int×List Int=>f p.1) hp,ih h1,posOf_cons_ne (fun e=>hp (by rw[e];exact hf))]
theorem posOf_map (g:Int→List Int)(ds:List Int)(d:Int)(h:d∈ds):posOf (ds.map (fun d=>(d,g d))) d=g d:=by
 induction ds with
 |nil=>simp at h
 |cons x ds ih=>
  show (if x=d then g x else posOf (ds.map (fun d=>(d,g d))) d)=g d
  by_cases e:x=d
  ·rw[if_pos e,e]
  ·rw[if_neg e];rcases List.mem_cons.1 h with h|h
   ·exact absurd h.symm e
   ·exact ih h
theorem docs_map (g:Int→List Int)(ds:List Int):docs (ds.map (fun d=>(d,g d)))=ds:=by
 unfold docs;rw[List.map_map];exact List.map_id ds
theorem docs_filter (f:Int→Bool)(l:PL):docs (l.filter (fun p=>f p.1))=(docs l).filter f:=by
 induction l with
 |nil=>rfl
 |cons p l ih=>
  by_cases hp:f p.1=true
  ·rw[List.filter_cons_of_pos (p:=fun p:Int×List Int=>f p.1) hp,docs_cons',docs_cons',List.filter_cons_of_pos hp,ih]
  ·rw[List.filter_cons_of_neg (p:=fun p:Int×List Int=>f p.1) hp,docs_cons',List.filter_cons_of_neg hp,ih]
theorem on_eq {l:PL}{ds:List Int}(hl:Asc' l)(hd:Asc ds):onR l ds=onP l ds:=by
 have e1:docs (onR l ds)=(docs l).filter (fun d=>decide (d∈ds)):=docs_filter (fun d=>decide (d∈ds)) l;have e2:docs (onP l ds)=ds.filter (fun d=>decide (d∈docs l)):=docs_map _ _;refine ascP_ext ?_ ?_ (fun d=>?_) fun d h=>?_
 ·show Asc (docs (onR l ds));rw[e1];exact hl.filter _
 ·show Asc (docs (onP l ds));rw[e2];exact hd.filter _
 ·rw[e1,e2,List.mem_filter,List.mem_filter];simp[and_comm]
 ·rw[e1,List.mem_filter] at h;have h2:=of_decide_eq_true h.2;have g1:posOf (onR l ds) d=posOf l d:=posOf_filter hl (fun d=>decide (d∈ds)) d h.2;have g2:posOf (onP l ds) d=posOf l d:=posOf_map (posOf l) _ d (List.mem_filter.2 ⟨h2,decide_eq_true h.1⟩);rw[g1,g2]
theorem onP_take (l:PL)(ds:List Int)(k:Nat)(h:k<ds.length):onP l (ds.take (k+1))=onP l (ds.take k)++(if ds.getD k 0∈docs l then [(ds.getD k 0,posOf l (ds.getD k 0))] else []):=by
 unfold onP;rw[filter_step ds k (fun d=>decide (d∈docs l)) h]
 by_cases hm:ds.getD k 0∈docs l
 ·rw[if_pos (by simpa using hm),if_pos hm,List.map_append];rfl
 ·rw[if_neg (by simpa using hm),if_neg hm,List.append_nil]
theorem onP_len (l:PL)(ds:List Int):(onP l ds).length≤ds.length:=by
 unfold onP;rw[List.length_map];exact List.length_filter_le _ _
theorem seekN_mono {l:PL}(h:Asc' l){d e:Int}(hd:d≤e):seekN l d≤seekN l e:=by
 rcases Nat.lt_or_ge (seekN l e) (seekN l d) with h1|h1
 ·exfalso;have hle:=seekN_le l d;have:=(seekN_lt h d (seekN l e) (by omega)).2 h1;have:=(seekN_lt h e (seekN l e) (by omega)).1 (by omega);omega
 ·exact h1
theorem seekN_mem {l:PL}(h:Asc' l)(d:Int):d∈docs l↔seekN l d<l.length∧(l.getD (seekN l d) (0,[])).1=d:=by
 constructor
 ·intro hm;obtain⟨p,hp,e⟩:=List.mem_map.1 hm;obtain⟨j,hj,e2⟩:=memD_inv (0,[]) hp;have hjd:(l.getD j (0,[])).1=d:=by rw[e2];exact e
  have n1:=seekN_lt h d j hj;have:seekN l d≤j:=by omega
  have hlt:seekN l d<l.length:=by omega
  refine⟨hlt,?_⟩;have n2:=seekN_lt h d _ hlt;rcases Nat.lt_or_ge (seekN l d) j with h3|h3
  ·have:(docs l).getD (seekN l d) 0<(docs l).getD j 0:=asc_get h h3 (by simp[docs];omega);have g:∀k,k<l.length→(docs l).getD k 0=(l.getD k (0,[])).1:=fun k hk=>by
    simp[docs,List.getD_eq_getElem?_getD,List.getElem?_map,List.getElem?_eq_getElem hk]
   rw[g _ hlt,g _ hj] at this;omega
  ·have:seekN l d=j:=by omega
   rw[this];exact hjd
 ·rintro⟨h1,h2⟩;exact List.mem_map.2 ⟨_,memD l _ (0,[]) h1,h2⟩
theorem posOf_get {l:PL}(h:Asc' l){k:Nat}(hk:k<l.length):posOf l (l.getD k (0,[])).1=(l.getD k (0,[])).2:=posOf_mem h (memD l k _ hk)
def onlyL (l:PL)(ds:List Int):PL:=if validL l=true∧asc ds 1 1000000000=true then onP l ds else []
attribute [-simp] List.getD_eq_getElem?_getD in
theorem only_ok (l:PL)(ds:List Int)(hl:l.length≤1000)(hp:∀p∈l,p.2.length≤1000)(hd:ds.length≤1000)(H:List Blk)(T:Toks)(ta tb:Tag) :
  ACall Tryz.prog 81 [.sl l.length (psAV l) ta,.sl ds.length (ints ds) tb] H T (Is (.sl (onlyL l ds).length (psAV (onlyL l ds)) .none) H T):=by
 refine ACall.untag1 (ACall.untag2 ?_);refine ACall.drop' ?_ (by simp);have hml:1000≤maxLen:=by decide
 have c1:=valid_ok l (by omega) (fun p h=>Nat.le_trans (hp p h) hml) H T .none;have c2:=validDocs_ok ds (by omega) H T .none;refine acall_enter 21 [] Tryz.ntmps81 Tryz.func81 rfl (fun _ _=>Tryz.call81 _ _) (by simp) (fun HO=>?_);apply aw_reg;intro K h;simp(disch:=omega);apply h;clear h K;apply aw_reg;intro K h;simp(disch:=omega);apply h;clear h K;refine aw_then fun K1 hK1=>?_
 cases hv:validL l with
 |false=>
  rw[hv] at c1;refine aw_reg fun K hK=>?_;simp(disch:=omega) ;refine acall_is (c1) ?_;simp(disch:=omega) ;apply hK;clear hK K;apply aw_ift rfl;apply aw_reg;intro K h;simp(disch:=omega);apply h;clear h K;apply aw_ret;simp(disch:=omega) ;simp[onlyL,hv,psAV]
 |true=>
  rw[hv] at c1
  cases hw:asc ds 1 1000000000 with
  |false=>
   rw[hw] at c2;refine aw_reg fun K hK=>?_;simp(disch:=omega) ;refine acall_is (c1) ?_;simp(disch:=omega) ;refine acall_is (c2) ?_;simp(disch:=omega) ;apply hK;clear hK K;apply aw_ift rfl;apply aw_reg;intro K h;simp(disch:=omega);apply h;clear h K;apply aw_ret;simp(disch:=omega) ;simp[onlyL,hw,psAV]
  |true=>
   rw[hw] at c2;obtain⟨a1,a2,a3⟩:=validL_iff hv;have hda:=asc_pair hw;have hr:onlyL l ds=onP l ds:=by unfold onlyL;rw[if_pos ⟨hv,hw⟩]
   refine aw_reg fun K hK=>?_;simp(disch:=omega) ;refine acall_is (c1) ?_;simp(disch:=omega) ;refine acall_is (c2) ?_;simp(disch:=omega) ;apply hK;clear hK K;apply aw_iff rfl;apply aw_skip;simp(disch:=omega) ;apply hK1;clear hK1;apply aw_reg;intro K h;simp(disch:=omega);apply h;clear h K;refine aw_then fun K1 hK1=>?_;apply aw_reg;intro K h;simp(disch:=omega);apply h;clear h K;apply aw_block;refine aw_own 5 0 2 [] (by omega) (by simp) ?_;refine aw_loop (X:=Nat×Nat) (fun x=>⟨[(0,.sl l.length (psAV l) .none),(5,.sl (onP l (ds.take x.1)).length (psAV (onP l (ds.take x.1))) (.own T.length)),(6,.int .i64 (x.2:Nat)),(18,.sl ds.length (ints ds) .none),(19,.int .i64 (ds.length:Nat)),(20,.int .i64 (x.1:Nat))],H,T++[((onP l (ds.take x.1)).length*2,2)]⟩) (fun x=>x.1≤ds.length∧(x.1<ds.length→x.2≤seekN l (ds.getD x.1 0))∧x.2≤1000) (fun x=>ds.length-x.1) (0,0) ?_ ?_ ?_
   ·exact⟨Nat.zero_le _,fun _=>Nat.zero_le _,by simp⟩
   ·refine weak_to [] [] ?_ ?_ ?_ ?_ (HO.toks (by simp)) ?_
    all_goals simp[psAV_nil,onP]
   ·rintro⟨k,at_⟩ ⟨h1,h2,h3⟩;simp only at h1 h2 h3;have hlen:=onP_len l (ds.take k);rw[List.length_take] at hlen;apply aw_reg;intro K h;simp(disch:=omega);apply h;clear h K;refine aw_then fun K2 hK2=>?_;refine aw_if rfl (fun hk=>?_) (fun hk=>?_)
    ·simp  at hk;have hgk:=getD_ints (xs:=ds) (k:=k) hk;have hst:=onP_take l ds k hk;have hsm:=seekN_mem a1 (ds.getD k 0);have hsl:=seekN_le l (ds.getD k 0);have c3:=seek_ok l at_ (ds.getD k 0) (by omega) a1 (h2 hk) H (T++[((onP l (ds.take k)).length*2,2)]);have hnx:k+1<ds.length→seekN l (ds.getD k 0)≤seekN l (ds.getD (k+1) 0):=fun hh=>seekN_mono a1 (Int.le_of_lt (asc_get hda (by omega) hh));have hpg:∀m,m<l.length→(l.getD m (0,[])).1=ds.getD k 0→posOf l (ds.getD k 0)=(l.getD m (0,[])).2:=fun m hm e=>by rw[←e];exact posOf_get a1 hm
     generalize onP l (ds.take k)=out at *;generalize hdd:ds.getD k 0=d at *;generalize seekN l d=N at *;apply aw_skip;simp(disch:=omega) ;apply hK2;clear hK2;refine aw_then fun K3 hK3=>?_;apply aw_block;refine aw_reg fun K hK=>?_;simp(disch:=omega)[hgk,hk];apply hK;clear hK K;refine aw_reg fun K hK=>?_;simp(disch:=omega) ;refine acall_is (c3) ?_;simp(disch:=omega) ;apply hK;clear hK K
     by_cases c1:N<l.length
     ·have b1:decide ((N:Int)<l.length)=true:=by simp;omega
      have hat:=psAV_at l N c1;have hpl:=hp _ (memD l N (0,[]) c1);have hpg1:=hpg N c1;generalize l.getD N (0,[])=p at *
      by_cases c2:p.1=d
      ·have b2:(p.1==d)=true:=by simpa using c2
       have hm:d∈docs l:=hsm.2 ⟨c1,c2⟩;rw[if_pos hm,hpg1 c2] at hst;have hps:=psAV_snoc out d p.2;have c4:=cloneI_ok p.2 (by omega) H (T++[(out.length*2,2)]);refine aw_reg fun K hK=>?_;simp(disch:=omega)[b1,c1,hat.1,psAV_len,b2];apply hK;clear hK K;apply aw_ift rfl;refine aw_reg0 fun K hK=>?_;simp(disch:=omega)[hat.2,psAV_len,hps,c1];refine acall_is (c4) ?_;simp(disch:=omega)[hps,psAV_len];apply hK;clear hK K;apply hK3;clear hK3;refine aw_reg0 fun K hK=>?_;simp(disch:=omega) ;apply hK;clear hK K;refine⟨(k+1,N),⟨by show k+1≤_;omega,hnx,by show N≤1000;omega⟩,by show ds.length-(k+1)<ds.length-k;omega,?_⟩;simp only[hst];refine weak_to [] [] ?_ ?_ ?_ ?_ (HO.toks (by simp)) ?_
       all_goals simp
      ·have b2:(p.1==d)=false:=by simpa using c2
       have hm:¬d∈docs l:=fun h=>c2 (hsm.1 h).2;rw[if_neg hm,List.append_nil] at hst;refine aw_reg fun K hK=>?_;simp(disch:=omega)[b1,c1,hat.1,psAV_len,b2];apply hK;clear hK K;apply aw_iff rfl;apply aw_skip;simp(disch:=omega) ;apply hK3;clear hK3;refine aw_reg0 fun K hK=>?_;simp(disch:=omega) ;apply hK;clear hK K;refine⟨(k+1,N),⟨by show k+1≤_;omega,hnx,by show N≤1000;omega⟩,by show ds.length-(k+1)<ds.length-k;omega,?_⟩;simp only[hst];refine weak_to [] [] ?_ ?_ ?_ ?_ (HO.toks (by simp)) ?_
       all_goals simp
     ·have b1:decide ((N:Int)<l.length)=false:=by simp;omega
      have hm:¬d∈docs l:=fun h=>c1 (hsm.1 h).1;rw[if_neg hm,List.append_nil] at hst;refine aw_reg fun K hK=>?_;simp(disch:=omega)[b1,c1];apply hK;clear hK K;apply aw_iff rfl;apply aw_skip;simp(disch:=omega) ;apply hK3;clear hK3;refine aw_reg0 fun K hK=>?_;simp(disch:=omega) ;apply hK;clear hK K;refine⟨(k+1,N),⟨by show k+1≤_;omega,hnx,by show N≤1000;omega⟩,by show ds.length-(k+1)<ds.length-k;omega,?_⟩;simp only[hst];refine weak_to [] [] ?_ ?_ ?_ ?_ (HO.toks (by simp)) ?_
      all_goals simp
    ·simp at hk;have:k=ds.length:=by omega
     subst this;rw[List.take_length];apply aw_exit;simp(disch:=omega) ;apply hK1;clear hK1;apply aw_reg;intro K h;simp(disch:=omega);apply h;clear h K;apply aw_ret;simp(disch:=omega) ;rw[hr];exact⟨rfl,rfl⟩
def VL (l:PL):Prop:=validL l=true
theorem validL_of {l:PL}(h1:Asc' l)(h2:∀p∈l,1≤p.1∧p.1≤1000000000)(h3:∀p∈l,p.2≠[]∧Asc p.2∧∀q∈p.2,0≤q∧q≤1000000):VL l:=by
 unfold VL validL;rw[Bool.and_eq_true];refine⟨asc_of h1 fun q hq=>?_,?_⟩
 ·obtain⟨p,hp,rfl⟩:=List.mem_map.1 hq;exact h2 p hp
 ·have:l.any badP=false:=by
   rw[List.any_eq_false];intro p hp;obtain⟨g1,g2,g3⟩:=h3 p hp;have e:asc p.2 0 1000000=true:=asc_of g2 g3;simp[badP,e,g1]
  rw[this];rfl
theorem pos_in {l:PL}{d z:Int}(h:z∈posOf l d):∃p∈l,p.1=d∧posOf l d=p.2:=by
 induction l with
 |nil=>simp[posOf] at h
 |cons p l ih=>
  by_cases e:p.1=d
  ·subst e;exact⟨p,by simp,rfl,posOf_cons_eq⟩
  ·rw[posOf_cons_ne e] at h ⊢;obtain⟨q,g1,g2,g3⟩:=ih h;exact⟨q,by simp[g1],g2,g3⟩
theorem posOf_asc {l:PL}(h:VL l)(d:Int):Asc (posOf l d):=by
 cases e:posOf l d with
 |nil=>exact List.Pairwise.nil
 |cons z r=>
  obtain⟨p,h1,_,h3⟩:=pos_in (l:=l) (d:=d) (z:=z) (by rw[e];simp);rw[←e,h3];exact((validL_iff h).2.2 p h1).2.1
theorem doc_pos {l:PL}(h:VL l)(d:Int):d∈docs l↔∃z,z∈posOf l d:=by
 obtain⟨a1,a2,a3⟩:=validL_iff h
 constructor
 ·intro hd;obtain⟨p,hp,rfl⟩:=List.mem_map.1 hd;rw[posOf_mem a1 hp];exact List.exists_mem_of_ne_nil _ (a3 p hp).1
 ·rintro⟨z,hz⟩;obtain⟨p,h1,h2,_⟩:=pos_in hz;exact List.mem_map.2 ⟨p,h1,h2⟩
theorem vext {a b:PL}(ha:VL a)(hb:VL b)(h:∀d z,z∈posOf a d↔z∈posOf b d):a=b:=by
 refine ascP_ext (validL_iff ha).1 (validL_iff hb).1 (fun d=>?_) fun d _=>asc_ext _ _ (posOf_asc ha d) (posOf_asc hb d) (h d);rw[doc_pos ha,doc_pos hb];exact exists_congr (h d)
theorem unionL_eq {a b:PL}(ha:VL a)(hb:VL b):unionL a b=unL a b:=by unfold unionL;rw[if_pos ⟨ha,hb⟩]
theorem docs_unL (a b:PL):docs (unL a b)=jn (docs a) (docs b):=docs_map (fun d=>jn (posOf a d) (posOf b d)) _
theorem posOf_unL {a b:PL}(ha:VL a)(hb:VL b)(d:Int):posOf (unL a b) d=jn (posOf a d) (posOf b d):=by
 by_cases h:d∈jn (docs a) (docs b)
 ·exact posOf_map (fun d=>jn (posOf a d) (posOf b d)) _ d h
 ·have e:posOf (unL a b) d=[]:=posOf_no (by rw[show (unL a b).map (·.1)=docs (unL a b) from rfl,docs_unL];exact h);rw[jn_mem (a:=docs a) (b:=docs b) (validL_iff ha).1 (validL_iff hb).1] at h;have e1:posOf a d=[]:=posOf_no (fun hh=>h (.inl hh));have e2:posOf b d=[]:=posOf_no (fun hh=>h (.inr hh));rw[e,e1,e2];rfl
theorem un_mem {a b:PL}(ha:VL a)(hb:VL b)(d z:Int):z∈posOf (unionL a b) d↔z∈posOf a d∨z∈posOf b d:=by
 rw[unionL_eq ha hb,posOf_unL ha hb,jn_mem (posOf_asc ha d) (posOf_asc hb d)]
theorem un_V {a b:PL}(ha:VL a)(hb:VL b):VL (unionL a b):=by
 obtain⟨a1,a2,a3⟩:=validL_iff ha;obtain⟨b1,b2,b3⟩:=validL_iff hb;rw[unionL_eq ha hb];have key:∀d,d∈jn (docs a) (docs b)→d∈docs a∨d∈docs b:=fun d hd=>(jn_mem a1 b1 d).1 hd;refine validL_of ?_ (fun p hp=>?_) fun p hp=>?_
 ·show Asc (docs (unL a b));rw[docs_unL];exact jn_asc a1 b1
 ·obtain⟨d,hd,rfl⟩:=List.mem_map.1 hp;rcases key d hd with h|h
  ·obtain⟨q,hq,e⟩:=List.mem_map.1 h;have:=a2 q hq;rw[e] at this;exact this
  ·obtain⟨q,hq,e⟩:=List.mem_map.1 h;have:=b2 q hq;rw[e] at this;exact this
 ·obtain⟨d,hd,rfl⟩:=List.mem_map.1 hp;refine⟨fun e=>?_,jn_asc (posOf_asc ha d) (posOf_asc hb d),fun q hq=>?_⟩
  ·have e':jn (posOf a d) (posOf b d)=[]:=e;have hno:∀z,¬(z∈posOf a d∨z∈posOf b d):=fun z hz=>by
    rw[←jn_mem (posOf_asc ha d) (posOf_asc hb d),e'] at hz;simp at hz
   rcases key d hd with h|h
   ·obtain⟨z,hz⟩:=(doc_pos ha d).1 h;exact hno z (.inl hz)
   ·obtain⟨z,hz⟩:=(doc_pos hb d).1 h;exact hno z (.inr hz)
  ·rcases (jn_mem (posOf_asc ha d) (posOf_asc hb d) q).1 hq with h|h
   ·obtain⟨p,h1,_,h3⟩:=pos_in h;rw[h3] at h;exact(a3 p h1).2.2 q h
   ·obtain⟨p,h1,_,h3⟩:=pos_in h;rw[h3] at h;exact(b3 p h1).2.2 q h
section
variable {a b c : PL} (ha : VL a) (hb : VL b) (hc : VL c)
include ha
include hb
include hc
end
end Go.Proofs.YtoejlmpbebjemaaGreat
