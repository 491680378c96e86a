/- index.New, Put and Drop (layer 40), and documents with one word. Play (layer 40): changes, one after the other; the example of the document. Own, of indexes, and IndexValid (layer 40): it returns true. Indexes as arguments.
  Conditions: as the theorems say. -/
import Derived.Test.YtoejlmpbebjemaaGreatXZb
import Derived.Test.YtoejlmpbebjemaaGreatXE
import Derived.Test.YtoejlmpbebjemaaGreatPZ
import Derived.Test.YtoejlmpbebjemaaGreatXK
import Derived.Test.YtoejlmpbebjemaaGreatGZw
import Derived.Test.YtoejlmpbebjemaaGreatGLA
import Derived.Test.YtoejlmpbebjemaaGreatGArg
set_option linter.all false
set_option maxRecDepth 100000
set_option maxHeartbeats 8000000
namespace Go.Proofs.YtoejlmpbebjemaaGreat
open Go Go.Am Sug Post Seg
attribute [-simp] List.getD_eq_getElem?_getD in
theorem newX_ok (H:List Blk)(T:Toks):ACall Tryz.prog 25 [] H T (Is (xAV []) H T):=by
 refine ACall.dropA ?_ (by simp);refine acall_enter 2 [] Tryz.ntmps25 Tryz.func25 rfl (fun _ _=>Tryz.call25 _ _) (by simp) (fun HO=>?_);apply aw_reg;intro K h;simp(disch:=omega);apply h;clear h K;apply aw_reg;intro K h;simp(disch:=omega);apply h;clear h K;apply aw_ret;simp(disch:=omega) ;rfl
theorem plus_repl (x:List Sd)(d:Dc):replX (killX x d.id).1 (killX x d.id).1.length (killX x d.id).1.length [d]=plusX x d:=by
 unfold replX plusX segX;rw[List.take_length,List.drop_length,if_neg (by simp),List.append_nil]
theorem kill_len (x:List Sd)(id:Int):(killX x id).1.length=x.length:=by
 unfold killX
 split<;>simp
attribute [-simp] List.getD_eq_getElem?_getD in
theorem dropC_ok {m:Nat}{x:List Sd}(h:BX m x)(ht:Tidy x)(hl:x.length≤400)(id:Int)(H:List Blk)(T:Toks) :
  ACall Tryz.prog 20 [xAV x,.int .i64 id] H T (Is (.tup [xAV (dropX x id),.bool (killX x id).2]) H T):=by
 refine ACall.dropTA ?_ (by simp);have cv:=fun H T=>h.valid_ok ht hl H T;have ck:=fun H T=>kill_ok h.g (h.szx hl) id H T;have ct:=fun H T=>tidy_ok (h.kill id) (by rw[kill_len];exact hl) H T;unfold dropX;refine acall_enter 8 [] Tryz.ntmps20 Tryz.func20 rfl (fun _ _=>Tryz.call20 _ _) (by simp) (fun HO=>?_);apply aw_reg;intro K h;simp(disch:=omega);apply h;clear h K;refine aw_then fun K1 hK1=>?_;refine aw_reg fun K hK=>?_;simp(disch:=omega) ;refine acall_is (cv _ _) ?_;simp(disch:=omega) ;apply hK;clear hK K;apply aw_iff rfl;apply aw_skip;simp(disch:=omega) ;apply hK1;clear hK1;refine aw_reg fun K hK=>?_;simp(disch:=omega) ;refine acall_is (ck _ _) ?_;simp(disch:=omega) ;apply hK;clear hK K;refine aw_then fun K1 hK1=>?_
 cases hw:(killX x id).2 with
 |false=>
  rw[if_neg (by simp)];refine aw_reg fun K hK=>?_;simp(disch:=omega)[hw];apply hK;clear hK K;apply aw_ift rfl;apply aw_reg;intro K h;simp(disch:=omega);apply h;clear h K;apply aw_ret;simp(disch:=omega) ;exact⟨rfl,rfl⟩
 |true=>
  rw[if_pos rfl];refine aw_reg fun K hK=>?_;simp(disch:=omega)[hw];apply hK;clear hK K;apply aw_iff rfl;apply aw_skip;simp(disch:=omega) ;apply hK1;clear hK1;refine aw_reg fun K hK=>?_;simp(disch:=omega) ;refine acall_is (ct _ _) ?_;simp(disch:=omega) ;apply hK;clear hK K;apply aw_ret;simp(disch:=omega) ;exact⟨rfl,by rw[hw];rfl⟩
attribute [-simp] List.getD_eq_getElem?_getD in
theorem putC_bad {x:List Sd}{d:Dc}(hd:SzD d)(hv:validD d=false)(H:List Blk)(T:Toks) :
  ACall Tryz.prog 18 [xAV x,.agg (dcC d)] H T (Is (.tup [xAV [],.int .i64 1]) H T):=by
 refine ACall.dropTA ?_ (by simp);have ce:=fun H T=>extV_ok d hd H T;rw[hv] at ce;refine acall_enter 9 [] Tryz.ntmps18 Tryz.func18 rfl (fun _ _=>Tryz.call18 _ _) (by simp) (fun HO=>?_);apply aw_reg;intro K h;simp(disch:=omega);apply h;clear h K;refine aw_then fun K1 hK1=>?_;refine aw_reg fun K hK=>?_;simp(disch:=omega) ;refine acall_is (ce _ _) ?_;simp(disch:=omega) ;apply hK;clear hK K;apply aw_ift rfl;apply aw_reg;intro K h;simp(disch:=omega);apply h;clear h K;apply aw_ret;simp(disch:=omega) ;exact⟨rfl,rfl⟩
attribute [-simp] List.getD_eq_getElem?_getD in
theorem putC_ok {m:Nat}{x:List Sd}(h:BX m x)(ht:Tidy x)(hl:x.length≤399){d:Dc}(hd:SzD d)(hw:Wee m d)(hv:validD d=true)(ha:(alive (plusX x d)).length≤40)(hm:(alive (plusX x d)).length*m≤1000)(H:List Blk)(T:Toks) :
  ACall Tryz.prog 18 [xAV x,.agg (dcC d)] H T (Is (.tup [xAV (putX x d),.int .i64 0]) H T):=by
 refine ACall.dropTA ?_ (by simp);have ce:=fun H T=>extV_ok d hd H T;rw[hv] at ce;have cv:=fun H T=>h.valid_ok ht (by omega) H T;have hk:=h.kill d.id;have hkl:=kill_len x d.id;have ck:=fun H T=>kill_ok h.g (h.szx (by omega)) d.id H T;have cD:=fun H T=>docsX_ok hk (by omega) H T;have hvd:VD [d]:=⟨by simp,by simp,fun y hy=>by rw[List.mem_singleton.1 hy];exact hv⟩
 have cb:=fun H T=>buildP_ok [d] (by simp) (fun y hy=>by rw[List.mem_singleton.1 hy];exact hd) (fun y hy=>by rw[List.mem_singleton.1 hy];have:=hw.n;omega) H T .full;rw[hvd.build] at cb;have hS:=segS_len (killX x d.id).1;have hD:=segD_len (killX x d.id).1;have cr:=fun H T=>replaced_ok (segS (killX x d.id).1) (segD (killX x d.id).1) (segS (killX x d.id).1).length (segS (killX x d.id).1).length (sgF [d]) (hk.szx (by omega)) (by omega) (Nat.le_refl _) (Nat.le_refl _) (by simp[sgF]) H T;rw[hS,←segS_repl,←segD_repl,plus_repl,←hS] at cr;have ct:=fun H T=>tidy_ok (h.plus hv hw ha hm) (by unfold plusX;rw[List.length_append,hkl];simp;omega) H T;rw[show tidyX (sizeX (plusX x d)) (plusX x d)=putX x d from rfl] at ct;have hdl:=docsQ_len hk.g (Nat.le_refl _);have hka:=hk.a;generalize hq:docsQ (killX x d.id).1 (killX x d.id).1.length=q at *;clear hq;have b1:decide ((2000:Int)≤(q.length:Int))=false:=decide_eq_false (by omega);have b2:¬2000≤q.length:=by omega
 have eb:dcAV [d]=dcC d:=by simp[dcAV]
 rw[show (dcAV [d])=dcC d from eb] at cb;generalize putX x d=y at *;generalize plusX x d=pl at *;generalize killX x d.id=kx at *;obtain⟨kx,was⟩:=kx;simp only at ck cr cD hS hD hkl;generalize sgF [d]=s at *;refine acall_enter 9 [] Tryz.ntmps18 Tryz.func18 rfl (fun _ _=>Tryz.call18 _ _) (by simp) (fun HO=>?_);apply aw_reg;intro K h;simp(disch:=omega);apply h;clear h K;refine aw_then fun K1 hK1=>?_;refine aw_reg fun K hK=>?_;simp(disch:=omega) ;refine acall_is (ce _ _) ?_;simp(disch:=omega) ;refine acall_is (cv _ _) ?_;simp(disch:=omega) ;apply hK;clear hK K;apply aw_iff rfl;apply aw_skip;simp(disch:=omega) ;apply hK1;clear hK1;refine aw_reg fun K hK=>?_;simp(disch:=omega) ;refine acall_is (ck _ _) ?_;simp(disch:=omega) ;apply hK;clear hK K;refine aw_then fun K1 hK1=>?_;refine aw_reg fun K hK=>?_;have key:∀e,envLe (H.length+3) T.length e [(2,.ptr H.length 0),(3,.ptr (H.length+1) 0),(4,.ptr (H.length+2) 0),(32,.bool false)]→K ⟨e,H++[.cells (ixC (segS kx) (segD kx)),.cells (dcC d),.cells [.sl 0 [] .full,.sl 0 [] .full]],T⟩:=by
  intro e he;refine hK _ (aw_hok fun ho=>aw_weak ⟨[(2,.ptr H.length 0),(3,.ptr (H.length+1) 0),(4,.ptr (H.length+2) 0),(32,.bool false)],_,_⟩ (weak_to [] [] (by simp) (by simp) (by simp) (by simp) ho (by simpa using he)) ?_);apply aw_iff rfl;apply aw_skip;simp(disch:=omega) ;apply hK1;clear hK1;refine aw_reg fun K hK=>?_;simp(disch:=omega) ;refine acall_is (cb _ _) ?_;simp(disch:=omega) ;apply hK;clear hK K;refine aw_reg fun K hK=>?_;simp(disch:=omega) ;refine acall_is (cr _ _) ?_;simp(disch:=omega) ;refine acall_is (ct _ _) ?_;simp(disch:=omega) ;apply hK;clear hK K;apply aw_ret;simp(disch:=omega) ;exact⟨rfl,rfl⟩
 cases was with
 |false=>
  simp(disch:=omega) ;refine acall_is (cD _ _) ?_;simp(disch:=omega)[b1,b2];refine key _ ?_;simp
 |true=>
  simp(disch:=omega) ;refine key _ ?_;simp
attribute [-simp] List.getD_eq_getElem?_getD in
theorem titled_ok (id:Int)(w:Bs)(H:List Blk)(T:Toks):ACall Tryz.prog 26 [.int .i64 id,.str w] H T (Is (.agg (dcC (tit id w))) H T):=by
 refine ACall.dropA ?_ (by simp);refine acall_enter 5 [] Tryz.ntmps26 Tryz.func26 rfl (fun _ _=>Tryz.call26 _ _) (by simp) (fun HO=>?_);apply aw_reg;intro K h;simp(disch:=omega);apply h;clear h K;apply aw_reg;intro K h;simp(disch:=omega);apply h;clear h K;apply aw_ret;simp(disch:=omega) ;rfl
abbrev opC (o:Chg):List AV:=.bool o.1::dcC o.2
def opsAV (l:List Chg):List AV:=l.flatMap opC
abbrev o0:Chg:=(false,d0)
theorem ops_rows:CellsK opC 4:=fun _=>rfl
theorem opsAV_len (l:List Chg):(opsAV l).length=l.length*4:=rows_len ops_rows l
theorem opsAV_at (l:List Chg)(i:Nat)(h:i<l.length):(opsAV l).getD (i*4) .top=.bool (l.getD i o0).1∧(opsAV l).getD (i*4+1) .top=.int .i64 (l.getD i o0).2.id:=⟨rows_at ops_rows l i 0 o0 h (by omega),rows_at ops_rows l i 1 o0 h (by omega)⟩
theorem opsAV_cut (l:List Chg)(i:Nat)(h:i<l.length):((opsAV l).drop (i*4+1)).take 3=dcC (l.getD i o0).2:=by
 have h1:=rows_cut ops_rows l i o0 h;have h2:((opsAV l).drop (i*4+1)).take 3=(((opsAV l).drop (i*4)).take 4).drop 1:=by
  rw[List.drop_take,List.drop_drop]
 rw[h2];unfold opsAV;rw[h1];rfl
@[simp] theorem below_ops (n t:Nat) (l:List Chg):BelowAll n t (opsAV l):=rows_below (f:=opC) (fun x=>by simp) l
theorem IX.szB {l:List Chg}{B m:Nat}{x:List Sd}(h:IX (ofL l) B x)(hl:l.length≤B)(hw:∀o∈l,validD o.2=true→Wee m o.2)(hB:B≤40)(hm:B*m≤1000):BX m x∧x.length≤7:=by
 have ha:(alive x).length≤B:=Nat.le_trans (pool_len h.g.nd h.p.each) hl;refine⟨h.bx (fun d ⟨o,ho,e,hv⟩=>by rw[←e] at hv ⊢;exact hw o ho hv) ha hB hm,?_⟩;rcases Nat.lt_or_ge 7 x.length with h7|h7
 ·have h1:=tidy_len h.g h.t ha (fun e=>by rw[e] at h7;simp at h7);have h2:2 ^ 7≤2 ^ (x.length-1):=Nat.pow_le_pow_right (by omega) (by omega);omega
 ·exact h7
attribute [-simp] List.getD_eq_getElem?_getD in
theorem play_ok {m B:Nat}(l:List Chg)(hl:l.length≤B)(hs:∀o∈l,SzD o.2)(hw:∀o∈l,validD o.2=true→Wee m o.2)(hB:B≤40)(hm:B*m≤1000)(H:List Blk)(T:Toks)(tg:Tag) :
  ACall Tryz.prog 13 [.sl l.length (opsAV l) tg] H T (Is (xAV (playX l)) H T):=by
 refine ACall.untag1 ?_;refine ACall.drop' ?_ (by simp);have HOx:∀x,HOk H T→HOk (H++[.cells [.sl 0 [] .full,.sl 0 [] .full],.cells (ixC (segS x) (segD x))]) T:=fun x HO=>by
  have:=(HO.snoc (vs:=[.sl 0 [] .full,.sl 0 [] .full]) (by simp)).snoc (vs:=ixC (segS x) (segD x)) (by simp);simpa using this
 have cn:=fun H T=>newX_ok H T;refine acall_enter 7 [] Tryz.ntmps13 Tryz.func13 rfl (fun _ _=>Tryz.call13 _ _) (by simp) (fun HO=>?_);have HOx:=fun x=>HOx x HO;apply aw_reg;intro K h;simp(disch:=omega);apply h;clear h K;refine aw_reg fun K hK=>?_;simp(disch:=omega) ;refine acall_is (cn _ _) ?_;simp(disch:=omega) ;apply hK;clear hK K;refine aw_then fun K1 hK1=>?_;apply aw_reg;intro K h;simp(disch:=omega);apply h;clear h K;apply aw_block;refine aw_loop (X:=Nat) (fun i=>⟨[(0,.sl l.length (opsAV l) .none),(2,.ptr H.length 0),(3,.ptr (H.length+1) 0),(4,.int .i64 (i:Nat))],H++[.cells [.sl 0 [] .full,.sl 0 [] .full],.cells (ixC (segS (playX (l.take i))) (segD (playX (l.take i))))],T⟩)
  (fun i=>i≤l.length) (fun i=>l.length-i) 0 ?_ ?_ ?_
 ·exact Nat.zero_le _
 ·refine weak_to [] [] ?_ ?_ ?_ ?_ (HOx _) ?_
  all_goals simp[playX,segS,segD]
 ·intro i g1;have hx:=play_ix hl (by omega) i g1;obtain⟨hb,h7⟩:=hx.szB hl hw hB hm;refine aw_then fun K2 hK2=>?_
  by_cases hk:i<l.length
  ·have b1:decide ((i:Int)<(l.length:Int))=true:=decide_eq_true (by omega);refine aw_reg fun K hK=>?_;simp(disch:=omega)[hk];apply hK;clear hK K;apply aw_ift rfl;obtain⟨a1,a2⟩:=opsAV_at l i hk;have a3:=opsAV_cut l i hk;have hmem:l.getD i o0∈l:=getD_mem l i o0 hk;have hnext:playX (l.take (i+1))=chgX (playX (l.take i)) (l.getD i o0):=by
    unfold playX;rw[take_getD l i o0 hk,List.foldl_append];rfl
   have hx2:=play_ix hl (by omega) (i+1) hk;have hpool:∀{d},ofL l d→validD d=true→(alive (plusX (playX (l.take i)) d)).length≤B:=fun {d} h1 h2=>
    Nat.le_trans (pool_len (plus_good hx.g h2 (.inl (by have:=hb.a;omega))).nd (hx.p.plus h1 (by omega)).each) hl
   generalize hgz:playX (l.take (i+1))=z at *;generalize playX (l.take i)=x at *;generalize hgo:l.getD i o0=o at *;obtain⟨dr,d⟩:=o;simp only at a1 a2 a3;have hsd:=hs _ hmem;simp only at hsd;apply aw_skip;simp(disch:=omega) ;apply hK2;clear hK2;refine aw_then fun K3 hK3=>?_;apply aw_block;refine aw_reg fun K hK=>?_;simp(disch:=omega)[a1,hk,opsAV_len];apply hK;clear hK K
   cases dr with
   |true=>
    have cd:=fun H T=>dropC_ok hb hx.t (by omega) d.id H T;have e:z=dropX x d.id:=by rw[hnext];unfold chgX;rw[if_pos rfl]
    rw[←e] at cd;apply aw_ift rfl;refine aw_draw0 [11] [0,0,0,0,0,0,0,0,0,0,0,0] [[10]] drawMixed (by kernel_rfl) (by kernel_rfl) fun K hK=>?_;simp(disch:=omega)[a2,hk,opsAV_len];refine dcall_is (cd _ _) rfl ?_;simp(disch:=omega) ;apply hK;clear hK K;apply hK3;clear hK3;refine aw_reg0 fun K hK=>?_;simp(disch:=omega) ;apply hK;clear hK K;refine⟨i+1,by show i+1≤_;omega,by show l.length-(i+1)<l.length-i;omega,?_⟩;refine weak_to [] [] ?_ ?_ ?_ ?_ (HOx _) ?_
    all_goals simp[hgz]
   |false=>
    apply aw_iff rfl;have hend:∀e G,envLe (H.length+2) T.length e [(0,.sl l.length (opsAV l) .none),(2,.ptr H.length 0),(3,.ptr (H.length+1) 0),(4,.int .i64 (i:Nat))]→
      K3 ⟨e,H++.cells [.sl 0 [] .full,.sl 0 [] .full]::.cells (ixC (segS z) (segD z))::G,T⟩:=by
     intro e G he;refine hK3 _ (aw_weak ⟨[(0,.sl l.length (opsAV l) .none),(2,.ptr H.length 0),(3,.ptr (H.length+1) 0),(4,.int .i64 (i:Nat))],H++[.cells [.sl 0 [] .full,.sl 0 [] .full],.cells (ixC (segS z) (segD z))],T⟩ (weak_to G [] (by simp) (by simp) (by simp) (by simp) (HOx _) (by simpa using he)) ?_);refine aw_reg0 fun K hK=>?_;simp(disch:=omega) ;apply hK;clear hK K;refine⟨i+1,by show i+1≤_;omega,by show l.length-(i+1)<l.length-i;omega,?_⟩;refine weak_to [] [] ?_ ?_ ?_ ?_ (HOx _) ?_
     all_goals simp[hgz]
    clear hK3
    cases hv:validD d with
    |true=>
     have hd:ofL l d:=⟨_,hmem,rfl,hv⟩
     have hp:=hpool hd hv;have cp:=fun H T=>putC_ok hb hx.t (by omega) hsd (hw _ hmem hv) hv (by omega) (Nat.le_trans (Nat.mul_le_mul_right m hp) hm) H T;have e:z=putX x d:=by rw[hnext];unfold chgX;rw[if_neg (by simp),if_pos hv]
     rw[←e] at cp;refine aw_draw [10,11] [0,0,0,0,0,0,0,0,0,0,0,1,2] [[0,1,2,3,4,5,6,7,8,9],[9]] drawMixed (by kernel_rfl) (by kernel_rfl) fun K hK=>?_;simp(disch:=omega)[a3,hk,opsAV_len];refine dcall_is (cp _ _) rfl ?_;simp(disch:=omega)[a3,hk,opsAV_len];refine⟨cp _ _,hK _ ?_⟩;clear hK K;apply aw_reg;intro K h;simp(disch:=omega);apply h;clear h K;apply aw_ift rfl;refine aw_reg0 fun K hK=>?_;simp(disch:=omega) ;apply hK;clear hK K;refine hend _ [_] ?_;simp
    |false=>
     have cp:=fun H T=>putC_bad (x:=x) hsd hv H T;have e:z=x:=by rw[hnext];unfold chgX;rw[if_neg (by simp),if_neg (by rw[hv];simp)]
     refine aw_draw [10,11] [0,0,0,0,0,0,0,0,0,0,0,1,2] [[0,1,2,3,4,5,6,7,8,9],[9]] drawMixed (by kernel_rfl) (by kernel_rfl) fun K hK=>?_;simp(disch:=omega)[a3,hk,opsAV_len];refine dcall_is (cp _ _) rfl ?_;simp(disch:=omega)[a3,hk,opsAV_len];refine⟨cp _ _,hK _ ?_⟩;clear hK K;apply aw_reg;intro K h;simp(disch:=omega);apply h;clear h K;apply aw_iff rfl;apply aw_skip;rw[←e];refine hend _ [_] ?_;simp
  ·have b1:decide ((i:Int)<(l.length:Int))=false:=decide_eq_false (by omega);have:i=l.length:=by omega
   subst this;refine aw_reg fun K hK=>?_;simp(disch:=omega)[b1,hk];apply hK;clear hK K;apply aw_iff rfl;apply aw_exit;simp(disch:=omega) ;apply hK1;clear hK1;apply aw_reg;intro K h;simp(disch:=omega);apply h;clear h K;apply aw_ret;simp(disch:=omega) 
theorem plus_le {x:List Sd}(h:GX x)(d:Dc):(alive (plusX x d)).length≤(alive x).length+1:=by
 rw[plus_alive h,List.length_append,List.length_singleton];have:=List.length_filter_le (fun y:Dc=>!decide (y.id=d.id)) (alive x);omega
def exL:List Chg:=[(false,tit 1 [97]),(false,tit 2 [97]),(false,tit 3 [98])]
theorem tit_szd (id:Int)(w:Bs)(hw:w.length≤maxLen):SzD (tit id w):=⟨by simp[tit,maxLen],fun z hz=>by
 have:z=⟨1,[(w,0)]⟩:=by simpa[tit] using hz
 subst this;exact⟨by simp[maxLen],fun y hy=>by
  have:y=(w,0):=by simpa using hy
  rw[this];exact hw⟩,by simp[tit,maxLen]⟩
attribute [-simp] List.getD_eq_getElem?_getD in
theorem awakeX_ok (H:List Blk)(T:Toks):ACall Tryz.prog 10 [] H T (Is (.bool true) H T):=by
 refine ACall.drop' ?_ (by simp);have v4:validD (tit 1 [99])=true:=by decide +kernel
 have hw:∀o∈exL++[(false,tit 1 [99])],validD o.2=true→Wee 1 o.2:=fun o ho _=>by
  simp[exL] at ho;rcases ho with rfl|rfl|rfl|rfl<;>exact wee_tit _ _
 have hs:∀o∈exL,SzD o.2:=fun o ho=>by
  simp[exL] at ho;rcases ho with rfl|rfl|rfl<;>exact tit_szd _ _ (by simp[maxLen])
 have ct1:=fun H T=>titled_ok 1 [97] H T;have ct2:=fun H T=>titled_ok 2 [97] H T;have ct3:=fun H T=>titled_ok 3 [98] H T;have ct4:=fun H T=>titled_ok 1 [99] H T;have cp:=fun H T=>play_ok (m:=1) (B:=3) exL (by simp[exL]) hs (fun o ho=>hw o (List.mem_append_left _ ho)) (by omega) (by omega) H T .full;have hx:=play_ix (l:=exL) (B:=3) (by simp[exL]) (by omega) 3 (by simp[exL]);obtain⟨hbx,h7⟩:=hx.szB (m:=1) (by simp[exL]) (fun o ho=>hw o (List.mem_append_left _ ho)) (by omega) (by omega);have eX:playX (exL.take 3)=exX:=rfl;have eX2:playX exL=exX:=rfl;rw[eX] at hx hbx h7;rw[eX2] at cp;have hy:=play_ix (l:=exL++[(false,tit 1 [99])]) (B:=4) (by simp[exL]) (by omega) 4 (by simp[exL]);obtain⟨hby,h8⟩:=hy.szB (m:=1) (by simp[exL]) hw (by omega) (by omega);have eY:playX ((exL++[(false,tit 1 [99])]).take 4)=exY:=by
  show chgX exX (false,tit 1 [99])=exY;unfold chgX;rw[if_neg (by simp),if_pos v4];rfl
 rw[eY] at hy hby h8;have hpl:=plus_le hx.g (tit 1 [99]);have hal:(alive exX).length≤3:=Nat.le_trans (pool_len hx.g.nd hx.p.each) (by simp[exL]);have cq:=fun H T=>putC_ok hbx hx.t (by omega) (tit_szd 1 [99] (by simp[maxLen])) (wee_tit 1 [99]) v4 (by omega) (by omega) H T;rw[show putX exX (tit 1 [99])=exY from rfl] at cq;have cf:=fun H T=>findX_ok hby (by omega) (by omega) 1 [97] H T;have cv:=fun H T=>hby.valid_ok hy.t (by omega) H T;have hvY:=all_vd hy.g;have hq:=findQ_all hy.g (1,[97]);have q1:(findQ exY (1,[97]) exY.length).length≤5000:=by
  rw[hq];have h1:=postF_len (allX exY) (1,[97]);have h2:(allX exY).length=(alive exY).length:=sortD_len _;have:=hby.a;omega
 have q2:∀p∈findQ exY (1,[97]) exY.length,p.2.length≤maxLen:=fun p hp=>by
  rw[hq] at hp;refine Nat.le_trans (hby.post (by omega) (fun d hd=>?_) (1,[97]) p hp) (by decide);obtain⟨q,hq,hd⟩:=all_mem.1 hd;exact⟨q,hq,lv_sub hd⟩
 have cD:=fun H T=>docsP_ok (findQ exY (1,[97]) exY.length) q1 q2 H T .none;have eD:docsL (findQ exY (1,[97]) exY.length)=[2]:=by
  unfold docsL;rw[hq,if_pos (validL_post hvY.lt hvY.v _)];exact exY_find
 rw[eD] at cD;have cs:=fun H T=>sameInts_ok [2] [2] (by simp[maxLen]) (by simp[maxLen]) H T .none .full;have x1:(segS exX).length=2:=by rw[segS_len,ex_x];rfl
 have x2:=(ssAV_at (segS exX) 0 (by omega)).1;rw[show (segS exX).getD 0 noSeg=sgF [tit 1 [97],tit 2 [97]] by rw[ex_x];rfl] at x2;have x3:(sgF [tit 1 [97],tit 2 [97]]).docs.length=2:=rfl;have y1:(segS exY).length=1:=by rw[segS_len,ex_y];rfl
 have eo:opsAV exL=[.bool false]++dcC (tit 1 [97])++[.bool false]++dcC (tit 2 [97])++[.bool false]++dcC (tit 3 [98]):=rfl;rw[eo,show exL.length=3 from rfl] at cp;generalize sgF [tit 1 [97],tit 2 [97]]=s0 at *;generalize findQ exY (1,[97]) exY.length=fq at *;clear hx hbx hy hby hs hw eo eD hq q1 q2 hvY hpl hal eX eX2 eY;generalize tit 1 [97]=d1 at *;generalize tit 2 [97]=d2 at *;generalize tit 3 [98]=d3 at *;generalize tit 1 [99]=d4 at *;generalize exX=X at *;generalize exY=Y at *;have S1:=ssAV_len (segS X);simp only[xAV,ixAV,ixC,y1] at cf cv;refine acall_enter 4 [] Tryz.ntmps10 Tryz.func10 rfl (fun _ _=>Tryz.call10 _ _) (by simp) (fun HO=>?_);apply aw_reg;intro K h;simp(disch:=omega);apply h;clear h K;refine aw_reg fun K hK=>?_;simp(disch:=omega) ;refine acall_is (ct1 _ _) ?_;simp(disch:=omega) ;refine acall_is (ct2 _ _) ?_;simp(disch:=omega) ;refine acall_is (ct3 _ _) ?_;simp(disch:=omega) ;refine acall_is (cp _ _) ?_;simp(disch:=omega) ;apply hK;clear hK K;refine aw_draw [6,7] [0,0,0,0,0,0,0,1,2] [[0,1,2,3,4,5],[5]] drawMixed (by kernel_rfl) (by kernel_rfl) fun K hK=>?_;simp(disch:=omega) ;refine dcall_is (ct4 _ _) rfl ?_;simp(disch:=omega) ;refine dcall_is (cq _ _) rfl ?_;simp(disch:=omega) ;refine⟨⟨ct4 _ _,cq _ _⟩,hK _ ?_⟩;clear hK K;refine aw_reg fun K hK=>?_;simp(disch:=omega)[x1,x2,x3,y1,S1];refine acall_is (cf _ _) ?_;simp(disch:=omega)[x1,x2,x3,y1,S1];refine acall_is (cD _ _) ?_;simp(disch:=omega) ;refine acall_is (cs _ _) ?_;simp(disch:=omega) ;refine acall_is (cv _ _) ?_;simp(disch:=omega) ;apply hK;clear hK K;apply aw_ret;simp(disch:=omega) 
attribute [-simp] List.getD_eq_getElem?_getD in
theorem own40_ok (S:List Sg)(D:List (List Int))(hz:SzX S D)(H:List Blk)(T:Toks):ACall Tryz.prog 23 [ixAV S D] H T (Is (ixAV S D) H T):=by
 refine ACall.frz ?_;show ACall Tryz.prog _ _ H T (BQ H T _);have hn:=hz.n;refine acall_enter 5 [] Tryz.ntmps23 Tryz.func23 rfl (fun _ _=>Tryz.call23 _ _) (by simp) (fun HO=>?_);apply aw_reg;intro K h;simp(disch:=omega);apply h;clear h K;apply aw_reg;intro K h;simp(disch:=omega);apply h;clear h K;refine aw_ownC 3 0 (H++[.cells (ixC S D),.cells [.sl 0 [] .full,.sl 0 [] .full]]) [.sl 0 [] .full,.sl D.length (ddAV D) .none] 0 [] (by omega) rfl (by simp) ?_;simp(disch:=omega) ;have HOk':∀k:Nat,HOk (H++[.cells (ixC S D),.cells [.sl 0 [] .full,.sl 0 [] .full],.cells [.sl k (ssAV (S.take k)) (.own T.length),.sl D.length (ddAV D) .none]]) (T++[(k*3,3)]):=fun k=>by
  have h1:=((HO.snoc (vs:=ixC S D) (by simp)).snoc (vs:=[.sl 0 [] .full,.sl 0 [] .full]) (by simp)).toks (T':=T++[(k*3,3)]) (by simp);have h2:=h1.snoc (vs:=[.sl k (ssAV (S.take k)) (.own T.length),.sl D.length (ddAV D) .none]) (by simp);simpa using h2
 refine aw_then fun K1 hK1=>?_;apply aw_reg;intro K h;simp(disch:=omega);apply h;clear h K;apply aw_block;refine aw_loop (X:=Nat) (fun k=>⟨[(1,.ptr H.length 0),(2,.ptr (H.length+1) 0),(3,.ptr (H.length+2) 0),(4,.int .i64 (k:Nat))],H++[.cells (ixC S D),.cells [.sl 0 [] .full,.sl 0 [] .full],.cells [.sl k (ssAV (S.take k)) (.own T.length),.sl D.length (ddAV D) .none]],T++[(k*3,3)]⟩)
  (fun k=>k≤S.length) (fun k=>S.length-k) 0 ?_ ?_ ?_
 ·exact Nat.zero_le _
 ·refine weak_to [] [] ?_ ?_ ?_ ?_ (HOk' 0) ?_
  all_goals simp[ssAV]
 ·intro k g1;refine aw_then fun K2 hK2=>?_
  by_cases hk:k<S.length
  ·have hcut:=ssAV_cut S k hk;have htk:=ssAV_take S k hk;have hl:=ssAV_len (S.take k);rw[List.length_take,Nat.min_eq_left g1] at hl;have co:=fun H T=>own_ok (S.getD k noSeg) (hz.s _ (getD_mem S k noSeg hk)) H T;generalize S.getD k noSeg=s at *;generalize hn1:ssAV (S.take (k+1))=A1 at *;generalize ssAV (S.take k)=A at *;refine aw_reg fun K hK=>?_;simp(disch:=omega)[hk];apply hK;clear hK K;apply aw_ift rfl;apply aw_skip;apply hK2;clear hK2;refine aw_then fun K3 hK3=>?_;apply aw_block;refine aw_draw0 [9,11] [0,0,0,0,0,0,0,0,0,0,1,1] [[],[]] drawMixed (by kernel_rfl) (by kernel_rfl) fun K hK=>?_;simp(disch:=omega)[hcut,hk,ssAV_len,hl];refine dcall_is (co _ _) rfl ?_;simp(disch:=omega)[hcut,hk,ssAV_len,hl];apply hK;clear hK K;apply hK3;clear hK3;refine aw_reg0 fun K hK=>?_;simp(disch:=omega) ;apply hK;clear hK K;refine⟨k+1,by show k+1≤_;omega,by show S.length-(k+1)<S.length-k;omega,?_⟩;refine weak_to [] [] ?_ ?_ ?_ ?_ (HOk' (k+1)) ?_
   all_goals simp[hn1,←htk]
  ·have:k=S.length:=by omega
   subst this;refine aw_reg fun K hK=>?_;simp(disch:=omega)[hk];apply hK;clear hK K;apply aw_iff rfl;apply aw_exit;simp(disch:=omega) ;apply hK1;clear hK1;apply aw_reg;intro K h;simp(disch:=omega);apply h;clear h K;apply aw_ret;simp(disch:=omega) ;refine⟨⟨_,rfl⟩,⟨_,rfl⟩,?_⟩;refine Frz.agg rfl fun jj hjj=>?_
   match jj,hjj with
   |0,_=>exact Frz.sl rfl (frz_map (ss_untag _).symm (by simp))
   |1,_=>exact Frz.sl rfl (frz_map (dd_untag _).symm (by simp))
structure SzI (S:List Sg)(D:List (List Int)):Prop where
 n:S.length≤maxLen
 s:∀s∈S,SzA s
 d:D.length≤maxLen
 l:∀d∈D,d.length≤maxLen
attribute [-simp] List.getD_eq_getElem?_getD in
theorem indexValid_ok (S:List Sg)(D:List (List Int))(hz:SzI S D):ACall Tryz.prog 4 [ixAV S D] [] [] (fun r _ _=>r=.bool true):=by
 have hm:maxLen≤9223372036854775807:=by decide
 have ca:=fun H=>awakeX_ok H [];have hS:=hz.n;have hD:=hz.d;refine acall_enter 5 [] Tryz.ntmps4 Tryz.func4 rfl (fun _ _=>Tryz.call4 _ _) (by simp) (fun HO=>?_);apply aw_reg;intro K h;simp(disch:=omega);apply h;clear h K;have HO1:HOk [Blk.cells (ixC S D)] []:=HOk.snoc (H:=[]) (vs:=ixC S D) HO (by simp);refine aw_then fun K1 hK1=>?_;refine aw_reg fun K hK=>?_;simp(disch:=omega) ;refine acall_is (ca _) ?_;simp(disch:=omega) ;apply hK;clear hK K;apply aw_iff rfl;apply aw_skip;apply hK1;clear hK1;refine aw_then fun K1 hK1=>?_
 by_cases h4:4<S.length
 ·have b1:decide ((4:Int)<(S.length:Int))=true:=decide_eq_true (by omega);refine aw_reg fun K hK=>?_;simp(disch:=omega)[b1,h4];apply hK;clear hK K;apply aw_ift rfl;apply aw_reg;intro K h;simp(disch:=omega);apply h;clear h K;apply aw_ret;simp(disch:=omega) 
 by_cases h6:6<D.length
 ·have b1:decide ((4:Int)<(S.length:Int))=false:=decide_eq_false (by omega);have b2:decide ((6:Int)<(D.length:Int))=true:=decide_eq_true (by omega);refine aw_reg fun K hK=>?_;simp(disch:=omega)[b1,h4,b2,h6];apply hK;clear hK K;apply aw_ift rfl;apply aw_reg;intro K h;simp(disch:=omega);apply h;clear h K;apply aw_ret;simp(disch:=omega) 
 have b1:decide ((4:Int)<(S.length:Int))=false:=decide_eq_false (by omega);have b2:decide ((6:Int)<(D.length:Int))=false:=decide_eq_false (by omega);refine aw_reg fun K hK=>?_;simp(disch:=omega)[b1,h4,b2,h6];apply hK;clear hK K;apply aw_iff rfl;apply aw_skip;apply hK1;clear hK1;refine aw_then fun K1 hK1=>?_;apply aw_reg;intro K h;simp(disch:=omega);apply h;clear h K;apply aw_block;refine aw_loop (X:=Nat) (fun i=>⟨[(1,.ptr 0 0),(3,.int .i64 (i:Nat))],[.cells (ixC S D)],[]⟩) (fun i=>i≤S.length∧∀j,j<i→smallB (S.getD j noSeg)=true) (fun i=>S.length-i) 0 ?_ ?_ ?_
 ·exact⟨Nat.zero_le _,fun j hj=>absurd hj (Nat.not_lt_zero _)⟩
 ·refine weak_to [] [] ?_ ?_ ?_ ?_ HO1 ?_
  all_goals simp
 ·rintro i ⟨g1,g2⟩;refine aw_then fun K2 hK2=>?_
  by_cases hi:i<S.length
  ·have hcut:=ssAV_cut S i hi;have cs:=fun H=>smallS_ok (S.getD i noSeg) (hz.s _ (getD_mem S i noSeg hi)) H [];have hgo:smallB (S.getD i noSeg)=true→∀j,j<i+1→smallB (S.getD j noSeg)=true:=fun h j hj=>by
    rcases Nat.lt_or_ge j i with h1|h1
    ·exact g2 j h1
    ·have:j=i:=by omega
     subst this;exact h
   generalize S.getD i noSeg=s at *;refine aw_reg fun K hK=>?_;simp(disch:=omega)[hi];apply hK;clear hK K;apply aw_ift rfl;apply aw_skip;apply hK2;clear hK2;refine aw_then fun K3 hK3=>?_;apply aw_block
   cases hb:smallB s with
   |false=>
    rw[hb] at cs;refine aw_reg fun K hK=>?_;simp(disch:=omega)[hcut,hi,ssAV_len];refine acall_is (cs _) ?_;simp(disch:=omega) ;apply hK;clear hK K;apply aw_ift rfl;apply aw_reg;intro K h;simp(disch:=omega);apply h;clear h K;apply aw_ret;simp(disch:=omega) 
   |true=>
    rw[hb] at cs;refine aw_reg fun K hK=>?_;simp(disch:=omega)[hcut,hi,ssAV_len];refine acall_is (cs _) ?_;simp(disch:=omega) ;apply hK;clear hK K;apply aw_iff rfl;apply aw_skip;apply hK3;clear hK3;refine aw_reg0 fun K hK=>?_;simp(disch:=omega) ;apply hK;clear hK K;refine⟨i+1,⟨by show i+1≤_;omega,hgo hb⟩,by show S.length-(i+1)<S.length-i;omega,?_⟩;refine weak_to [] [] ?_ ?_ ?_ ?_ HO1 ?_
    all_goals simp
  ·have:i=S.length:=by omega
   subst this;refine aw_reg fun K hK=>?_;simp(disch:=omega)[hi];apply hK;clear hK K;apply aw_iff rfl;apply aw_exit;simp(disch:=omega) ;apply hK1;clear hK1;refine aw_then fun K1 hK1=>?_;apply aw_reg;intro K h;simp(disch:=omega);apply h;clear h K;apply aw_block;refine aw_loop (X:=Nat) (fun i=>⟨[(1,.ptr 0 0),(4,.int .i64 (i:Nat))],[.cells (ixC S D)],[]⟩) (fun i=>i≤D.length∧∀j,j<i→(D.getD j []).length≤20) (fun i=>D.length-i) 0 ?_ ?_ ?_
   ·exact⟨Nat.zero_le _,fun j hj=>absurd hj (Nat.not_lt_zero _)⟩
   ·refine weak_to [] [] ?_ ?_ ?_ ?_ HO1 ?_
    all_goals simp
   ·rintro j ⟨q1,q2⟩;refine aw_then fun K2 hK2=>?_
    by_cases hj:j<D.length
    ·have d1:=ddAV_at D j hj;have hgo:(D.getD j []).length≤20→∀k,k<j+1→(D.getD k []).length≤20:=fun h k hk=>by
      rcases Nat.lt_or_ge k j with h1|h1
      ·exact q2 k h1
      ·have:k=j:=by omega
       subst this;exact h
     have hdl:=hz.l _ (getD_mem D j [] hj);generalize D.getD j []=d at *;refine aw_reg fun K hK=>?_;simp(disch:=omega)[hj];apply hK;clear hK K;apply aw_ift rfl;apply aw_skip;apply hK2;clear hK2;refine aw_then fun K3 hK3=>?_;apply aw_block
     by_cases hd:20<d.length
     ·have b3:decide ((20:Int)<(d.length:Int))=true:=decide_eq_true (by omega);refine aw_reg fun K hK=>?_;simp(disch:=omega)[d1,hj,ddAV_len,b3,hd];apply hK;clear hK K;apply aw_ift rfl;apply aw_reg;intro K h;simp(disch:=omega);apply h;clear h K;apply aw_ret;simp(disch:=omega) 
     ·have b3:decide ((20:Int)<(d.length:Int))=false:=decide_eq_false (by omega);refine aw_reg fun K hK=>?_;simp(disch:=omega)[d1,hj,ddAV_len,b3,hd];apply hK;clear hK K;apply aw_iff rfl;apply aw_skip;apply hK3;clear hK3;refine aw_reg0 fun K hK=>?_;simp(disch:=omega) ;apply hK;clear hK K;refine⟨j+1,⟨by show j+1≤_;omega,hgo (by omega)⟩,by show D.length-(j+1)<D.length-j;omega,?_⟩;refine weak_to [] [] ?_ ?_ ?_ ?_ HO1 ?_
      all_goals simp
    ·have:j=D.length:=by omega
     subst this;have hx:SzX S D:=by
      refine⟨by omega,fun s hs=>?_,by omega,fun d hd=>?_⟩
      ·obtain⟨k,hk,rfl⟩:=mem_getD noSeg hs;exact small_sz (g2 k hk) (hz.s _ (getD_mem S k noSeg hk))
      ·obtain⟨k,hk,rfl⟩:=mem_getD [] hd;have:=q2 k hk;omega
     have hd20:∀k,k<S.length→(S.getD k noSeg).docs.length≤20:=fun k hk=>by
      have:=g2 k hk;unfold smallB at this;simp only[Bool.and_eq_true,decide_eq_true_eq] at this;exact this.2.1
     have hl20:∀k,(D.getD k []).length≤20:=fun k=>by
      by_cases hk:k<D.length
      ·exact q2 k hk
      ·rw[getD_out (by omega)];simp
     have hlv:∀k,k<S.length→(lvS (S.getD k noSeg) (D.getD k [])).length≤40:=fun k hk=>by
      have h1:=comb_len (fun _ q=>!q) (S.getD k noSeg).docs (D.getD k []);have h2:=hd20 k hk;have h3:=hl20 k;show (comb (fun _ q=>!q) (S.getD k noSeg).docs (D.getD k [])).length≤40;omega
     have hall:∀k,k≤S.length→(allV S D k).length≤k*40:=fun k=>by
      induction k with
      |zero=>intro _;simp[allV]
      |succ k ih=>
       intro hk;have h1:=comb_len (fun _ _=>true) (allV S D k) (lvS (S.getD k noSeg) (D.getD k []));have h2:=ih (by omega);have h3:=hlv k hk;show (comb (fun _ _=>true) (allV S D k) (lvS (S.getD k noSeg) (D.getD k []))).length≤(k+1)*40;omega
     have hlv':=fun k hk=>Nat.le_trans (hlv k hk) (by omega:40≤1000);have hall':∀k,k≤S.length→(allV S D k).length≤1000:=fun k hk=>by
      have:=hall k hk;omega
     have co:=fun H=>own40_ok S D hx H [];have cv:=fun H=>validX_ok S D hx hall' hlv' H [];have cr:=fun H=>validR40_ok S D hx hall' hlv' H [];rw[validR_eq] at cr;generalize validX S D=b at *;refine aw_reg fun K hK=>?_;simp(disch:=omega)[hj];apply hK;clear hK K;apply aw_iff rfl;apply aw_exit;simp(disch:=omega) ;apply hK1;clear hK1;refine aw_draw [] [0,0,0,0,0,0,0] [] drawMixed (by kernel_rfl) (by kernel_rfl) fun K hK=>?_;simp(disch:=omega) ;refine dcall_is (co _) rfl ?_;simp(disch:=omega) ;refine dcall_is (cv _) rfl ?_;simp(disch:=omega) ;refine dcall_is (cr _) rfl ?_;simp(disch:=omega) ;apply hK;clear hK K;apply aw_ret;simp(disch:=omega) 
open Go.ChangeShapes Go.WideShapes Go.RowKit
theorem flat_dd:∀D:List (List Int),D.flatMap (fun d=>[ddC d])=ddAV D
 |[]=>rfl
 |d::D=>by rw[List.flatMap_cons,flat_dd D];rfl
section
variable {H : Type} {enc : TypeId × Value → H} {w : World} {base : Nat} {sp : Nat → Bool} {held : Bool} {cs : List Value} {x : DataW H × List MemPlace} {fuel : Nat}
theorem rc_ix (h:DataW.trod enc Tryz.prog w base sp held fuel 37 cs=some x):∃p:List Sg×List (List Int),SzI p.1 p.2∧RC w (ixC p.1 p.2) cs:=by
 obtain⟨hlen,hf⟩:=rc_fields Tryz.underlying37 h;obtain⟨n0,y0,g0'⟩:=hf 0 _ rfl;have g0:DataW.trod enc Tryz.prog w base sp held n0 35 ((cs.drop 0).take (Tryz.prog.cellsOf 35))=some y0:=g0';obtain⟨n1,y1,g1'⟩:=hf 1 _ rfl;have g1:DataW.trod enc Tryz.prog w base sp held n1 31 ((cs.drop 1).take (Tryz.prog.cellsOf 31))=some y1:=g1';rw[show Tryz.prog.cellsOf 35=1 by kernel_rfl] at g0;rw[show Tryz.prog.cellsOf 31=1 by kernel_rfl] at g1;rw[show Tryz.prog.cellsOf 37=2 by kernel_rfl] at hlen;obtain⟨S,p1,p2,b1⟩:=rc_list (f:=sgC) (R:=SzA) Tryz.underlying35 (by rw[show Tryz.prog.cellsOf 57=3 by kernel_rfl];omega) (fun n c y hy=>rc_sg hy) g0;obtain⟨D,p3,p4,b2⟩:=rc_list (f:=fun d=>[ddC d]) (R:=fun d=>d.length≤maxLen) Tryz.underlying31 (by rw[show Tryz.prog.cellsOf 53=1 by kernel_rfl];omega) (fun n c y hy=>by
  obtain⟨a,_,q1,q2⟩:=rc_ints Tryz.underlying53 Tryz.underlying3 (by rw[show Tryz.prog.cellsOf 3=1 by kernel_rfl];omega) hy;exact⟨a,q1,q2⟩) g1
 rw[flat_dd] at b2
 match cs,hlen with
 |[a,b],_=>exact⟨(S,D),⟨p2,p1,p4,p3⟩,b1.append b2⟩
theorem av_ix {v:Value}{d:DataW H}{ps:List MemPlace}{r:Reach}{b0:Nat}(hval:Value.okWide Tryz.prog w r b0 37 v)(h:DataW.Trod enc Tryz.prog w base sp held 37 v d ps):∃p:List Sg×List (List Int),SzI p.1 p.2∧Rep (lay0 w) 0 [] w (ixAV p.1 p.2) v:=by
 obtain⟨l,rfl⟩:=agg_of hval ⟨_,Tryz.underlying37⟩;obtain⟨fuel,hf⟩:=h;obtain⟨c,h1,q⟩:=rc_ix hf;exact⟨c,h1,RC.aggRep q⟩
end
end Go.Proofs.YtoejlmpbebjemaaGreat
