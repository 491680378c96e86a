/- SegmentValid (layer 39): it returns true.
  Conditions: none. -/
import Derived.Test.YtneohapkboaplaaGreatGLA
import Derived.Test.YtneohapkboaplaaGreatGOwn
import Derived.Test.YtneohapkboaplaaGreatGEq2
import Derived.Test.YtneohapkboaplaaGreatGSz
import Derived.Test.YtneohapkboaplaaGreatGSW
set_option linter.all false
set_option maxRecDepth 100000
namespace Go.Proofs.YtneohapkboaplaaGreat
open Go Go.Am Sug Seg Post
attribute [-simp] List.getD_eq_getElem?_getD in
set_option maxHeartbeats 8000000 in
theorem segmentValid_ok (s t:Sg)(hs:SzA s)(ht:SzA t):ACall Tryz.prog 6 [sgAV s,sgAV t] [] [] (fun r _ _=>r=.bool true):=by
 have hm:1000≤maxLen:=by decide
 have ca:=fun H=>awakeS_ok H []
 have cs:=fun H=>smallS_ok s hs H []
 have ct:=fun H=>smallS_ok t ht H []
 refine acall_enter 5 [] Tryz.ntmps6 Tryz.func6 rfl (fun _ _=>Tryz.call6 _ _) (by simp) (fun HO=>?_)
 refine aw_reg fun K hK=>?_;simp(disch:=omega) ;refine hK _ ?_;clear hK K
 refine aw_then fun K1 hK1=>?_
 refine aw_reg fun K hK=>?_;simp(disch:=omega) 
 refine acall_is (ca _) ?_;simp(disch:=omega) 
 refine hK _ ?_;clear hK K
 refine aw_iff rfl ?_
 refine aw_skip ?_;simp(disch:=omega) 
 refine hK1 _ ?_;clear hK1
 refine aw_then fun K1 hK1=>?_
 cases hb:smallB s with
 |false=>
  rw[hb] at cs
  refine aw_reg fun K hK=>?_;simp(disch:=omega) 
  refine acall_is (cs _) ?_;simp(disch:=omega) 
  refine hK _ ?_;clear hK K
  refine aw_ift rfl ?_
  refine aw_reg fun K hK=>?_;simp(disch:=omega) ;refine hK _ ?_;clear hK K
  refine aw_ret ?_;simp(disch:=omega) 
 |true=>
 rw[hb] at cs
 cases hb2:smallB t with
 |false=>
  rw[hb2] at ct
  refine aw_reg fun K hK=>?_;simp(disch:=omega) 
  refine acall_is (cs _) ?_;simp(disch:=omega) 
  refine acall_is (ct _) ?_;simp(disch:=omega) 
  refine hK _ ?_;clear hK K
  refine aw_ift rfl ?_
  refine aw_reg fun K hK=>?_;simp(disch:=omega) ;refine hK _ ?_;clear hK K
  refine aw_ret ?_;simp(disch:=omega) 
 |true=>
 rw[hb2] at ct
 have hz:=small_sz hb hs
 have hzt:=small_sz hb2 ht
 have co:=fun H=>own_ok s hz H []
 have cot:=fun H=>own_ok t hzt H []
 have c1:=fun H=>validS_ok s hz H []
 have c2:=fun H=>validSR_ok s hz H []
 have c3:=fun H=>equalP_ok s t hz hzt H []
 have c4:=fun H=>refEqualG_ok s t hz hzt H []
 have c5:=fun H=>documentsP_ok s hz H []
 have c6:=fun H=>refDocs_ok s hz H []
 rw[docsR_eq] at c6
 have c7:=fun H=>sameDocs_ok (docsP s) (Nat.le_trans (docsP_len hz) (by omega)) (docsP_szd hz) H [] .none .none
 generalize docsP s=ds at *
 generalize eqB s t=q at *
 refine aw_reg fun K hK=>?_;simp(disch:=omega) 
 refine acall_is (cs _) ?_;simp(disch:=omega) 
 refine acall_is (ct _) ?_;simp(disch:=omega) 
 refine hK _ ?_;clear hK K
 refine aw_iff rfl ?_
 refine aw_skip ?_;simp(disch:=omega) 
 refine hK1 _ ?_;clear hK1
 generalize validS s=v at *
 cases v<;>cases q<;>
 ·refine aw_draw [] [] [] drawMixed (by kernel_rfl) (by kernel_rfl) fun K hK=>?_;simp(disch:=omega) 
  refine dcall_is (co _) rfl ?_;simp(disch:=omega) 
  refine dcall_is (c1 _) rfl ?_;simp(disch:=omega) 
  refine dcall_is (c2 _) rfl ?_;simp(disch:=omega) 
  refine dcall_is (co _) rfl ?_;simp(disch:=omega) 
  refine dcall_is (cot _) rfl ?_;simp(disch:=omega) 
  refine dcall_is (c3 _) rfl ?_;simp(disch:=omega) 
  refine dcall_is (c4 _) rfl ?_;simp(disch:=omega) 
  refine dcall_is (co _) rfl ?_;simp(disch:=omega) 
  refine dcall_is (c5 _) rfl ?_;simp(disch:=omega) 
  refine dcall_is (c6 _) rfl ?_;simp(disch:=omega) 
  refine dcall_is (c7 _) rfl ?_;simp(disch:=omega) 
  refine hK _ ?_;clear hK K
  refine aw_ret ?_;simp(disch:=omega) 
end Go.Proofs.YtneohapkboaplaaGreat
