/- Posting lists: what is kept of them by a test on positions; laws on lists. What is kept of a posting: the function that filtered gives to merge. Merging of posting lists in layer 38. filtered of layer 38, and Near. Lists of posting lists in layer 38, and which of them are valid. Phrase of layer 38. The example of the document of layer 38 holds.
  Conditions: lengths below 400 or 1000, as each theorem says. -/
import Derived.Test.YtneohapkboaplaaGreatPA
import Derived.Test.YtneohapkboaplaaGreatPB
import Derived.Test.YtneohapkboaplaaGreatAmC
set_option linter.all false
set_option maxRecDepth 100000
namespace Post
abbrev PL:=List (Int×List Int)
def posOf:PL→Int→List Int
 |[],_=>[]
 |p::l,d=>if p.1=d then p.2 else posOf l d
def mgP {β:Type}(fA fB:β→(Int×List Int)→β)(fAB:β→(Int×List Int)→(Int×List Int)→β):Nat→PL→PL→β→β
 |0,_,_,o=>o
 |n+1,x::a,y::b,o=>if x.1<y.1 then mgP fA fB fAB n a (y::b) (fA o x) else if y.1<x.1 then mgP fA fB fAB n (x::a) b (fB o y) else mgP fA fB fAB n a b (fAB o x y)
 |n+1,x::a,[],o=>mgP fA fB fAB n a [] (fA o x)
 |n+1,[],y::b,o=>mgP fA fB fAB n [] b (fB o y)
 |_+1,[],[],o=>o
def Asc' (l:PL):Prop:=Asc (l.map (·.1))
theorem asc'_tail {x:Int×List Int}{l:PL}(h:Asc' (x::l)):Asc' l∧∀y∈l,x.1<y.1:=by
 obtain⟨h1,h2⟩:=asc_tail h
 exact⟨h1,fun y hy=>h2 _ (List.mem_map.2 ⟨y,hy,rfl⟩)⟩
theorem posOf_cons_ne {p:Int×List Int}{l:PL}{d:Int}(h:p.1≠d):posOf (p::l) d=posOf l d:=by simp[posOf,h]
theorem posOf_cons_eq {p:Int×List Int}{l:PL}:posOf (p::l) p.1=p.2:=by simp[posOf]
theorem posOf_none {l:PL}{d:Int}(h:∀p∈l,p.1≠d):posOf l d=[]:=by
 induction l with
 |nil=>rfl
 |cons p l ih=>rw[posOf_cons_ne (h p (by simp)),ih (fun q hq=>h q (by simp[hq]))]
end Post
namespace Go.Proofs.YtneohapkboaplaaGreat
open Go Go.Am Post
def STp (T:Toks)(out:PL):Toks:=T++[(out.length*2,2)]
theorem STp_len (T:Toks)(out:PL):(STp T out).length=T.length+1:=by simp[STp]
attribute [-simp] List.getD_eq_getElem?_getD in
theorem doc_ok (p:Int×List Int)(H:List Blk)(T:Toks):ACall Tryz.prog 111 [.agg [.int .i64 p.1,.sl p.2.length (ints p.2) .none]] H T (Is (.int .i64 p.1) H T):=by
 refine ACall.drop' ?_ (by simp)
 refine acall_enter 3 [] Tryz.ntmps111 Tryz.func111 rfl (fun _ _=>Tryz.call111 _ _) (by simp) (fun HO=>?_)
 refine aw_reg fun K hK=>?_;simp(disch:=omega) ;refine hK _ ?_;clear hK K
 refine aw_reg fun K hK=>?_;simp(disch:=omega) ;refine hK _ ?_;clear hK K
 refine aw_ret ?_;simp(disch:=omega) 
theorem drop_consP (l:PL)(i:Nat)(h:i<l.length):l.drop i=l.getD i (0,[])::l.drop (i+1):=by
 rw[List.drop_eq_getElem_cons h,List.getD_eq_getElem?_getD,List.getElem?_eq_getElem h]
 rfl
def MP {β:Type}(fA fB:β→(Int×List Int)→β)(fAB:β→(Int×List Int)→(Int×List Int)→β)(a b:PL)(n i j:Nat)(o:β):β:=mgP fA fB fAB n (a.drop i) (b.drop j) o
section
variable {β : Type} {fA fB : β → (Int × List Int) → β} {fAB : β → (Int × List Int) → (Int × List Int) → β} {a b : PL} {o : β} {n i j : Nat}
theorem MP_A (hn:0<n)(hi:i<a.length)(hj:j<b.length)(h:(a.getD i (0,[])).1<(b.getD j (0,[])).1):MP fA fB fAB a b n i j o=MP fA fB fAB a b (n-1) (i+1) j (fA o (a.getD i (0,[]))):=by
 obtain⟨m,rfl⟩:∃m,n=m+1:=⟨n-1,by omega⟩
 unfold MP
 rw[drop_consP a i hi,drop_consP b j hj,mgP,if_pos h]
 rfl
theorem MP_B (hn:0<n)(hi:i<a.length)(hj:j<b.length)(h:¬(a.getD i (0,[])).1<(b.getD j (0,[])).1)(h2:(b.getD j (0,[])).1<(a.getD i (0,[])).1):MP fA fB fAB a b n i j o=MP fA fB fAB a b (n-1) i (j+1) (fB o (b.getD j (0,[]))):=by
 obtain⟨m,rfl⟩:∃m,n=m+1:=⟨n-1,by omega⟩
 unfold MP
 rw[drop_consP a i hi,drop_consP b j hj,mgP,if_neg h,if_pos h2]
 rfl
theorem MP_AB (hn:0<n)(hi:i<a.length)(hj:j<b.length)(h:¬(a.getD i (0,[])).1<(b.getD j (0,[])).1)(h2:¬(b.getD j (0,[])).1<(a.getD i (0,[])).1):MP fA fB fAB a b n i j o=MP fA fB fAB a b (n-1) (i+1) (j+1) (fAB o (a.getD i (0,[])) (b.getD j (0,[]))):=by
 obtain⟨m,rfl⟩:∃m,n=m+1:=⟨n-1,by omega⟩
 unfold MP
 rw[drop_consP a i hi,drop_consP b j hj,mgP,if_neg h,if_neg h2]
 rfl
theorem MP_A0 (hn:0<n)(hi:i<a.length)(hj:j=b.length):MP fA fB fAB a b n i j o=MP fA fB fAB a b (n-1) (i+1) j (fA o (a.getD i (0,[]))):=by
 obtain⟨m,rfl⟩:∃m,n=m+1:=⟨n-1,by omega⟩
 unfold MP
 rw[drop_consP a i hi,hj,List.drop_length,mgP]
 rfl
theorem MP_B0 (hn:0<n)(hi:i=a.length)(hj:j<b.length):MP fA fB fAB a b n i j o=MP fA fB fAB a b (n-1) i (j+1) (fB o (b.getD j (0,[]))):=by
 obtain⟨m,rfl⟩:∃m,n=m+1:=⟨n-1,by omega⟩
 unfold MP
 rw[drop_consP b j hj,hi,List.drop_length,mgP]
 rfl
theorem MP_end (hi:i=a.length)(hj:j=b.length):MP fA fB fAB a b n i j o=o:=by
 unfold MP
 rw[hi,hj,List.drop_length,List.drop_length]
 cases n<;>rfl
end
attribute [-simp] List.getD_eq_getElem?_getD in
set_option maxRecDepth 100000 in
set_option maxHeartbeats 4000000 in
theorem mergeP_ok {β:Type}(g:Nat)(caps:List AV)(fA fB:β→(Int×List Int)→β)(fAB:β→(Int×List Int)→(Int×List Int)→β)(S:β→List Blk)(U:β→Toks)(I:Nat→β→Prop)(N M:Nat)(o0:β)
  (a b:PL) (ha:a.length≤400) (hb:b.length≤400) (hS:∀o,(S o).length=N) (hU:∀o,(U o).length=M) (hbc:BelowAll N M caps) (hok:∀n o,I n o→HOk (S o) (U o)) (h0:I 0 o0)
  (cA:∀n i o,i<a.length→n≤800→I n o→ACall Tryz.prog g ([.vptr (psAV a) (i*2),.nilp]++caps) (S o) (U o) (Is (.tup []) (S (fA o (a.getD i (0,[])))) (U (fA o (a.getD i (0,[]))))))
  (cB:∀n j o,j<b.length→n≤800→I n o→ACall Tryz.prog g ([.nilp,.vptr (psAV b) (j*2)]++caps) (S o) (U o) (Is (.tup []) (S (fB o (b.getD j (0,[])))) (U (fB o (b.getD j (0,[]))))))
  (cAB:∀n i j o,i<a.length→j<b.length→n≤800→I n o→ACall Tryz.prog g ([.vptr (psAV a) (i*2),.vptr (psAV b) (j*2)]++caps) (S o) (U o) (Is (.tup []) (S (fAB o (a.getD i (0,[])) (b.getD j (0,[])))) (U (fAB o (a.getD i (0,[])) (b.getD j (0,[]))))))
  (iA:∀n i o,i<a.length→I n o→I (n+1) (fA o (a.getD i (0,[])))) (iB:∀n j o,j<b.length→I n o→I (n+1) (fB o (b.getD j (0,[])))) (iAB:∀n i j o,i<a.length→j<b.length→I n o→I (n+2) (fAB o (a.getD i (0,[])) (b.getD j (0,[])))) :
  ACall Tryz.prog 110 [.sl a.length (psAV a) .none,.sl b.length (psAV b) .none,.fn 111 [] [],.fn g [] caps] (S o0) (U o0)
   (Is (.tup []) (S (MP fA fB fAB a b (a.length+b.length) 0 0 o0)) (U (MP fA fB fAB a b (a.length+b.length) 0 0 o0))):=by
 refine acall_enter 11 [] Tryz.ntmps110 Tryz.func110 rfl (fun _ _=>Tryz.call110 _ _) (by simp) (fun HO=>?_)
 refine aw_reg fun K hK=>?_;simp(disch:=omega) ;refine hK _ ?_;clear hK K
 refine aw_block ?_
 refine aw_loop (X:=Nat×Nat×Nat×β) (fun x=>⟨[(0,.sl a.length (psAV a) .none),(1,.sl b.length (psAV b) .none),(2,.fn 111 [] []),(3,.fn g [] caps),(8,.int .i64 (x.2.1:Nat)),(9,.int .i64 (x.2.2.1:Nat))],S x.2.2.2,U x.2.2.2⟩)
  (fun x=>x.2.1≤a.length∧x.2.2.1≤b.length∧(a.length-x.2.1)+(b.length-x.2.2.1)≤x.1∧MP fA fB fAB a b (a.length+b.length) 0 0 o0=MP fA fB fAB a b x.1 x.2.1 x.2.2.1 x.2.2.2∧I (x.2.1+x.2.2.1) x.2.2.2) (fun x=>x.1) (a.length+b.length,0,0,o0) ?_ ?_ ?_
 ·exact⟨Nat.zero_le _,Nat.zero_le _,by simp only;omega,rfl,h0⟩
 ·refine weak_to [] [] ?_ ?_ ?_ ?_ HO ?_
  ·simp
  ·simp
  ·simp
  ·simp
  ·simp[hS,hU,hbc]
 ·rintro⟨n,i,j,out⟩ ⟨h1,h2,h3,h4,h5⟩
  simp only at h1 h2 h3 h4 h5
  by_cases hi:i<a.length
  ·have bi:decide ((i:Int)<a.length)=true:=by simp;omega
   have ni:((i:Int)==a.length)=false:=by rw[beq_eq_false_iff_ne];omega
   have ni2:¬i=a.length:=by omega
   have hca:=psAV_cut a i hi
   by_cases hj:j<b.length
   ·have bj:decide ((j:Int)<b.length)=true:=by simp;omega
    have nj:((j:Int)==b.length)=false:=by rw[beq_eq_false_iff_ne];omega
    have nj2:¬j=b.length:=by omega
    have hcb:=psAV_cut b j hj
    have hn:0<n:=by omega
    refine aw_then fun K2 hK2=>?_
    refine aw_reg fun K hK=>?_;simp(disch:=omega)[bi,bj,hi,hj];refine hK _ ?_;clear hK K
    refine aw_ift rfl ?_
    refine aw_skip ?_;simp(disch:=omega) 
    refine hK2 _ ?_;clear hK2
    refine aw_block ?_
    refine aw_block ?_
    by_cases c1:(a.getD i (0,[])).1<(b.getD j (0,[])).1
    ·have b1:decide ((a.getD i (0,[])).1<(b.getD j (0,[])).1)=true:=by simpa using c1
     have hst:=MP_A (fA:=fA) (fB:=fB) (fAB:=fAB) (o:=out) hn hi hj c1
     refine aw_draw [] [] [] drawMixed (by kernel_rfl) (by kernel_rfl) fun K hK=>?_;simp(disch:=omega)[bi,hi,nj,nj2,hca,psAV_len]
     refine dcall_is (doc_ok _ _ _) rfl ?_;simp(disch:=omega)[hcb,psAV_len]
     refine dcall_is (doc_ok _ _ _) rfl ?_;simp(disch:=omega)[b1,c1]
     refine hK _ ?_;clear hK K
     refine aw_ift rfl ?_
     refine aw_reg fun K hK=>?_;simp(disch:=omega)[psAV_len]
     refine acall_is (cA (i+j) i out hi (by omega) h5) ?_;simp(disch:=omega) 
     refine hK _ ?_;clear hK K
     refine aw_reg0 fun K hK=>?_;simp(disch:=omega) 
     refine hK _ ?_;clear hK K
     refine⟨(n-1,i+1,j,fA out (a.getD i (0,[]))),⟨by show i+1≤a.length;omega,by show j≤b.length;omega,by show (a.length-(i+1))+(b.length-(j))≤n-1;omega,h4.trans hst,(show I (i+1+j) _ by rw[show i+1+j=i+j+1 by omega];exact iA _ i out hi h5)⟩,by show n-1<n;omega,?_⟩
     refine weak_to [] [] ?_ ?_ ?_ ?_ (hok _ _ ((show I (i+1+j) _ by rw[show i+1+j=i+j+1 by omega];exact iA _ i out hi h5))) ?_
     ·simp
     ·simp
     ·simp[hS]
     ·simp[hU]
     ·simp[hS,hU,hbc]
      try omega
    ·have b1:decide ((a.getD i (0,[])).1<(b.getD j (0,[])).1)=false:=by simpa using c1
     refine aw_draw [] [] [] drawMixed (by kernel_rfl) (by kernel_rfl) fun K hK=>?_;simp(disch:=omega)[bi,hi,nj,nj2,hca,psAV_len]
     refine dcall_is (doc_ok _ _ _) rfl ?_;simp(disch:=omega)[hcb,psAV_len]
     refine dcall_is (doc_ok _ _ _) rfl ?_;simp(disch:=omega)[b1,c1]
     refine hK _ ?_;clear hK K
     refine aw_iff rfl ?_
     by_cases c2:(b.getD j (0,[])).1<(a.getD i (0,[])).1
     ·have b2:decide ((b.getD j (0,[])).1<(a.getD i (0,[])).1)=true:=by simpa using c2
      have hst:=MP_B (fA:=fA) (fB:=fB) (fAB:=fAB) (o:=out) hn hi hj c1 c2
      refine aw_draw [] [] [] drawMixed (by kernel_rfl) (by kernel_rfl) fun K hK=>?_;simp(disch:=omega)[ni,ni2,hcb,psAV_len,hj]
      refine dcall_is (doc_ok _ _ _) rfl ?_;simp(disch:=omega)[hca,psAV_len]
      refine dcall_is (doc_ok _ _ _) rfl ?_;simp(disch:=omega)[b2,c2]
      refine hK _ ?_;clear hK K
      refine aw_ift rfl ?_
      refine aw_reg fun K hK=>?_;simp(disch:=omega)[psAV_len]
      refine acall_is (cB (i+j) j out hj (by omega) h5) ?_;simp(disch:=omega) 
      refine hK _ ?_;clear hK K
      refine aw_reg0 fun K hK=>?_;simp(disch:=omega) 
      refine hK _ ?_;clear hK K
      refine⟨(n-1,i,j+1,fB out (b.getD j (0,[]))),⟨by show i≤a.length;omega,by show j+1≤b.length;omega,by show (a.length-(i))+(b.length-(j+1))≤n-1;omega,h4.trans hst,(show I (i+(j+1)) _ from iB _ j out hj h5)⟩,by show n-1<n;omega,?_⟩
      refine weak_to [] [] ?_ ?_ ?_ ?_ (hok _ _ ((show I (i+(j+1)) _ from iB _ j out hj h5))) ?_
      ·simp
      ·simp
      ·simp[hS]
      ·simp[hU]
      ·simp[hS,hU,hbc]
       try omega
     ·have b2:decide ((b.getD j (0,[])).1<(a.getD i (0,[])).1)=false:=by simpa using c2
      have hst:=MP_AB (fA:=fA) (fB:=fB) (fAB:=fAB) (o:=out) hn hi hj c1 c2
      refine aw_draw [] [] [] drawMixed (by kernel_rfl) (by kernel_rfl) fun K hK=>?_;simp(disch:=omega)[ni,ni2,hcb,psAV_len,hj]
      refine dcall_is (doc_ok _ _ _) rfl ?_;simp(disch:=omega)[hca,psAV_len]
      refine dcall_is (doc_ok _ _ _) rfl ?_;simp(disch:=omega)[b2,c2]
      refine hK _ ?_;clear hK K
      refine aw_iff rfl ?_
      refine aw_draw [7] [0,0,0,0,0,0,0,0] [[]] drawMixed (by kernel_rfl) (by kernel_rfl) fun K hK=>?_;simp(disch:=omega)[psAV_len,hi,hj]
      refine dcall_eff (cAB (i+j) i j out hi hj (by omega) h5) rfl ?_;simp(disch:=omega) 
      refine hK _ ?_;clear hK K
      refine aw_reg0 fun K hK=>?_;simp(disch:=omega) 
      refine hK _ ?_;clear hK K
      refine⟨(n-1,i+1,j+1,fAB out (a.getD i (0,[])) (b.getD j (0,[]))),⟨by show i+1≤a.length;omega,by show j+1≤b.length;omega,by show (a.length-(i+1))+(b.length-(j+1))≤n-1;omega,h4.trans hst,(show I (i+1+(j+1)) _ by rw[show i+1+(j+1)=i+j+2 by omega];exact iAB _ i j out hi hj h5)⟩,by show n-1<n;omega,?_⟩
      refine weak_to [] [] ?_ ?_ ?_ ?_ (hok _ _ ((show I (i+1+(j+1)) _ by rw[show i+1+(j+1)=i+j+2 by omega];exact iAB _ i j out hi hj h5))) ?_
      ·simp
      ·simp
      ·simp[hS]
      ·simp[hU]
      ·simp[hS,hU,hbc]
       try omega
   ·have bj:decide ((j:Int)<b.length)=false:=by simp;omega
    have hjb:j=b.length:=by omega
    have nj:((j:Int)==b.length)=true:=by simp;omega
    have hn:0<n:=by omega
    have hst:=MP_A0 (fA:=fA) (fB:=fB) (fAB:=fAB) (o:=out) hn hi hjb
    refine aw_then fun K2 hK2=>?_
    refine aw_reg fun K hK=>?_;simp(disch:=omega)[bi,bj,hi,hj];refine hK _ ?_;clear hK K
    refine aw_ift rfl ?_
    refine aw_skip ?_;simp(disch:=omega) 
    refine hK2 _ ?_;clear hK2
    refine aw_block ?_
    refine aw_block ?_
    have hjz:(j:Int)=(b.length:Int):=by omega
    refine aw_draw [] [] [] drawMixed (by kernel_rfl) (by kernel_rfl) fun K hK=>?_;simp(disch:=omega)[nj,hjz]
    refine hK _ ?_;clear hK K
    refine aw_ift rfl ?_
    refine aw_reg fun K hK=>?_;simp(disch:=omega)[psAV_len]
    refine acall_is (cA (i+j) i out hi (by omega) h5) ?_;simp(disch:=omega) 
    refine hK _ ?_;clear hK K
    refine aw_reg0 fun K hK=>?_;simp(disch:=omega) 
    refine hK _ ?_;clear hK K
    refine⟨(n-1,i+1,j,fA out (a.getD i (0,[]))),⟨by show i+1≤a.length;omega,by show j≤b.length;omega,by show (a.length-(i+1))+(b.length-(j))≤n-1;omega,h4.trans hst,(show I (i+1+j) _ by rw[show i+1+j=i+j+1 by omega];exact iA _ i out hi h5)⟩,by show n-1<n;omega,?_⟩
    refine weak_to [] [] ?_ ?_ ?_ ?_ (hok _ _ ((show I (i+1+j) _ by rw[show i+1+j=i+j+1 by omega];exact iA _ i out hi h5))) ?_
    ·simp
    ·simp
    ·simp[hS]
    ·simp[hU]
    ·simp[hS,hU,hbc]
     try omega
  ·have bi:decide ((i:Int)<a.length)=false:=by simp;omega
   have hia:i=a.length:=by omega
   by_cases hj:j<b.length
   ·have bj:decide ((j:Int)<b.length)=true:=by simp;omega
    have nj:((j:Int)==b.length)=false:=by rw[beq_eq_false_iff_ne];omega
    have nj2:¬j=b.length:=by omega
    have ni:((i:Int)==a.length)=true:=by simp;omega
    have hn:0<n:=by omega
    have hst:=MP_B0 (fA:=fA) (fB:=fB) (fAB:=fAB) (o:=out) hn hia hj
    refine aw_then fun K2 hK2=>?_
    refine aw_reg fun K hK=>?_;simp(disch:=omega)[bi,bj,hi,hj];refine hK _ ?_;clear hK K
    refine aw_ift rfl ?_
    refine aw_skip ?_;simp(disch:=omega) 
    refine hK2 _ ?_;clear hK2
    refine aw_block ?_
    refine aw_block ?_
    refine aw_draw [] [] [] drawMixed (by kernel_rfl) (by kernel_rfl) fun K hK=>?_;simp(disch:=omega)[nj,nj2,bi,hi]
    refine hK _ ?_;clear hK K
    refine aw_iff rfl ?_
    have hiz:(i:Int)=(a.length:Int):=by omega
    refine aw_draw [] [] [] drawMixed (by kernel_rfl) (by kernel_rfl) fun K hK=>?_;simp(disch:=omega)[ni,hiz]
    refine hK _ ?_;clear hK K
    refine aw_ift rfl ?_
    refine aw_reg fun K hK=>?_;simp(disch:=omega)[psAV_len]
    refine acall_is (cB (i+j) j out hj (by omega) h5) ?_;simp(disch:=omega) 
    refine hK _ ?_;clear hK K
    refine aw_reg0 fun K hK=>?_;simp(disch:=omega) 
    refine hK _ ?_;clear hK K
    refine⟨(n-1,i,j+1,fB out (b.getD j (0,[]))),⟨by show i≤a.length;omega,by show j+1≤b.length;omega,by show (a.length-(i))+(b.length-(j+1))≤n-1;omega,h4.trans hst,(show I (i+(j+1)) _ from iB _ j out hj h5)⟩,by show n-1<n;omega,?_⟩
    refine weak_to [] [] ?_ ?_ ?_ ?_ (hok _ _ ((show I (i+(j+1)) _ from iB _ j out hj h5))) ?_
    ·simp
    ·simp
    ·simp[hS]
    ·simp[hU]
    ·simp[hS,hU,hbc]
     try omega
   ·have bj:decide ((j:Int)<b.length)=false:=by simp;omega
    have hend:=MP_end (fA:=fA) (fB:=fB) (fAB:=fAB) (a:=a) (b:=b) (o:=out) (n:=n) hia (show j=b.length by omega)
    rw[hend] at h4
    refine aw_then fun K2 hK2=>?_
    refine aw_reg fun K hK=>?_;simp(disch:=omega)[bi,bj,hi,hj];refine hK _ ?_;clear hK K
    refine aw_iff rfl ?_
    refine aw_exit ?_;simp(disch:=omega) 
    rw[h4]
    exact⟨rfl,rfl,rfl⟩
theorem posOf_mem {b:PL}{y:Int×List Int}(hs:Asc' b)(h:y∈b):posOf b y.1=y.2:=by
 induction b with
 |nil=>simp at h
 |cons z b ih=>
  obtain⟨h1,h2⟩:=asc'_tail hs
  rcases List.mem_cons.1 h with rfl|h
  ·exact posOf_cons_eq
  ·have:=h2 y h
   rw[posOf_cons_ne (by omega)]
   exact ih h1 h
theorem validL_iff {l:PL}(h:validL l=true):Asc' l∧(∀p∈l,1≤p.1∧p.1≤1000000000)∧∀p∈l,p.2≠[]∧Asc p.2∧∀q∈p.2,0≤q∧q≤1000000:=by
 have bounds:∀(l:List Int)(lo hi:Int),asc l lo hi=true→∀q∈l,lo≤q∧q≤hi:=fun l lo hi h q hq=>by
  obtain⟨j,hj,e⟩:=memD_inv 0 hq
  unfold asc at h
  rw[List.all_eq_true] at h
  have:=h j (by simpa using hj)
  unfold ascAt at this
  simp only[Bool.and_eq_true,decide_eq_true_eq] at this
  rw[e] at this
  exact this.1
 unfold validL at h
 rw[Bool.and_eq_true] at h
 obtain⟨h1,h2⟩:=h
 refine⟨asc_pair h1,fun p hp=>bounds _ _ _ h1 _ (List.mem_map.2 ⟨p,hp,rfl⟩),fun p hp=>?_⟩
 have h3:badP p=false:=by
  cases hb:badP p with
  |false=>rfl
  |true=>
   have:l.any badP=true:=List.any_eq_true.2 ⟨p,hp,hb⟩
   rw[this] at h2
   simp at h2
 unfold badP at h3
 rw[Bool.or_eq_false_iff] at h3
 have h4:asc p.2 0 1000000=true:=by simpa using h3.2
 refine⟨fun e=>?_,asc_pair h4,bounds _ _ _ h4⟩
 have:=h3.1
 rw[e] at this
 simp at this
theorem posOf_no {l:PL}{d:Int}(h:¬d∈l.map (·.1)):posOf l d=[]:=posOf_none fun p hp e=>h (List.mem_map.2 ⟨p,hp,e⟩)
end Go.Proofs.YtneohapkboaplaaGreat
