/- index.New, Put and Drop (layer 40), and documents with one word. Play (layer 40): changes, one after the other; the example of the document. IndexSize (layer 40): it returns true. Lists of small integers as arguments.
  Conditions: as the theorems say. -/
import Derived.Test.YtoejlmpbebjemaaGreatXZb
import Derived.Test.YtoejlmpbebjemaaGreatXE
import Derived.Test.YtoejlmpbebjemaaGreatPZ
import Derived.Test.YtoejlmpbebjemaaGreatXZa
import Derived.Test.YtoejlmpbebjemaaGreatPB
import Derived.Test.YtoejlmpbebjemaaGreatAmC
set_option linter.all false
set_option maxRecDepth 100000
set_option maxHeartbeats 16000000
namespace Go.Proofs.YtoejlmpbebjemaaGreat
open Go Go.Am Sug Post Seg
attribute [-simp] List.getD_eq_getElem?_getD in
theorem newX_ok (H:List Blk)(T:Toks):ACall Tryz.prog 25 [] H T (Is (xAV []) H T):=by
 refine ACall.dropA ?_ (by simp);refine acall_enter 2 [] Tryz.ntmps25 Tryz.func25 rfl (fun _ _=>Tryz.call25 _ _) (by simp) (fun HO=>?_);apply aw_reg;intro K h;simp(disch:=omega);apply h;clear h K;apply aw_reg;intro K h;simp(disch:=omega);apply h;clear h K;apply aw_ret;simp(disch:=omega) ;rfl
theorem plus_repl (x:List Sd)(d:Dc):replX (killX x d.id).1 (killX x d.id).1.length (killX x d.id).1.length [d]=plusX x d:=by
 unfold replX plusX segX;rw[List.take_length,List.drop_length,if_neg (by simp),List.append_nil]
theorem kill_len (x:List Sd)(id:Int):(killX x id).1.length=x.length:=by
 unfold killX
 split<;>simp
attribute [-simp] List.getD_eq_getElem?_getD in
theorem dropC_ok {m:Nat}{x:List Sd}(h:BX m x)(ht:Tidy x)(hl:x.length≤400)(id:Int)(H:List Blk)(T:Toks) :
  ACall Tryz.prog 20 [xAV x,.int .i64 id] H T (Is (.tup [xAV (dropX x id),.bool (killX x id).2]) H T):=by
 refine ACall.dropTA ?_ (by simp);have cv:=fun H T=>h.valid_ok ht hl H T;have ck:=fun H T=>kill_ok h.g (h.szx hl) id H T;have ct:=fun H T=>tidy_ok (h.kill id) (by rw[kill_len];exact hl) H T;unfold dropX;refine acall_enter 8 [] Tryz.ntmps20 Tryz.func20 rfl (fun _ _=>Tryz.call20 _ _) (by simp) (fun HO=>?_);apply aw_reg;intro K h;simp(disch:=omega);apply h;clear h K;refine aw_then fun K1 hK1=>?_;refine aw_reg fun K hK=>?_;simp(disch:=omega) ;refine acall_is (cv _ _) ?_;simp(disch:=omega) ;apply hK;clear hK K;apply aw_iff rfl;apply aw_skip;simp(disch:=omega) ;apply hK1;clear hK1;refine aw_reg fun K hK=>?_;simp(disch:=omega) ;refine acall_is (ck _ _) ?_;simp(disch:=omega) ;apply hK;clear hK K;refine aw_then fun K1 hK1=>?_
 cases hw:(killX x id).2 with
 |false=>
  rw[if_neg (by simp)];refine aw_reg fun K hK=>?_;simp(disch:=omega)[hw];apply hK;clear hK K;apply aw_ift rfl;apply aw_reg;intro K h;simp(disch:=omega);apply h;clear h K;apply aw_ret;simp(disch:=omega) ;exact⟨rfl,rfl⟩
 |true=>
  rw[if_pos rfl];refine aw_reg fun K hK=>?_;simp(disch:=omega)[hw];apply hK;clear hK K;apply aw_iff rfl;apply aw_skip;simp(disch:=omega) ;apply hK1;clear hK1;refine aw_reg fun K hK=>?_;simp(disch:=omega) ;refine acall_is (ct _ _) ?_;simp(disch:=omega) ;apply hK;clear hK K;apply aw_ret;simp(disch:=omega) ;exact⟨rfl,by rw[hw];rfl⟩
attribute [-simp] List.getD_eq_getElem?_getD in
theorem putC_bad {x:List Sd}{d:Dc}(hd:SzD d)(hv:validD d=false)(H:List Blk)(T:Toks) :
  ACall Tryz.prog 18 [xAV x,.agg (dcC d)] H T (Is (.tup [xAV [],.int .i64 1]) H T):=by
 refine ACall.dropTA ?_ (by simp);have ce:=fun H T=>extV_ok d hd H T;rw[hv] at ce;refine acall_enter 9 [] Tryz.ntmps18 Tryz.func18 rfl (fun _ _=>Tryz.call18 _ _) (by simp) (fun HO=>?_);apply aw_reg;intro K h;simp(disch:=omega);apply h;clear h K;refine aw_then fun K1 hK1=>?_;refine aw_reg fun K hK=>?_;simp(disch:=omega) ;refine acall_is (ce _ _) ?_;simp(disch:=omega) ;apply hK;clear hK K;apply aw_ift rfl;apply aw_reg;intro K h;simp(disch:=omega);apply h;clear h K;apply aw_ret;simp(disch:=omega) ;exact⟨rfl,rfl⟩
attribute [-simp] List.getD_eq_getElem?_getD in
theorem putC_ok {m:Nat}{x:List Sd}(h:BX m x)(ht:Tidy x)(hl:x.length≤399){d:Dc}(hd:SzD d)(hw:Wee m d)(hv:validD d=true)(ha:(alive (plusX x d)).length≤40)(hm:(alive (plusX x d)).length*m≤1000)(H:List Blk)(T:Toks) :
  ACall Tryz.prog 18 [xAV x,.agg (dcC d)] H T (Is (.tup [xAV (putX x d),.int .i64 0]) H T):=by
 refine ACall.dropTA ?_ (by simp);have ce:=fun H T=>extV_ok d hd H T;rw[hv] at ce;have cv:=fun H T=>h.valid_ok ht (by omega) H T;have hk:=h.kill d.id;have hkl:=kill_len x d.id;have ck:=fun H T=>kill_ok h.g (h.szx (by omega)) d.id H T;have cD:=fun H T=>docsX_ok hk (by omega) H T;have hvd:VD [d]:=⟨by simp,by simp,fun y hy=>by rw[List.mem_singleton.1 hy];exact hv⟩
 have cb:=fun H T=>buildP_ok [d] (by simp) (fun y hy=>by rw[List.mem_singleton.1 hy];exact hd) (fun y hy=>by rw[List.mem_singleton.1 hy];have:=hw.n;omega) H T .full;rw[hvd.build] at cb;have hS:=segS_len (killX x d.id).1;have hD:=segD_len (killX x d.id).1;have cr:=fun H T=>replaced_ok (segS (killX x d.id).1) (segD (killX x d.id).1) (segS (killX x d.id).1).length (segS (killX x d.id).1).length (sgF [d]) (hk.szx (by omega)) (by omega) (Nat.le_refl _) (Nat.le_refl _) (by simp[sgF]) H T;rw[hS,←segS_repl,←segD_repl,plus_repl,←hS] at cr;have ct:=fun H T=>tidy_ok (h.plus hv hw ha hm) (by unfold plusX;rw[List.length_append,hkl];simp;omega) H T;rw[show tidyX (sizeX (plusX x d)) (plusX x d)=putX x d from rfl] at ct;have hdl:=docsQ_len hk.g (Nat.le_refl _);have hka:=hk.a;generalize hq:docsQ (killX x d.id).1 (killX x d.id).1.length=q at *;clear hq;have b1:decide ((2000:Int)≤(q.length:Int))=false:=decide_eq_false (by omega);have b2:¬2000≤q.length:=by omega
 have eb:dcAV [d]=dcC d:=by simp[dcAV]
 rw[show (dcAV [d])=dcC d from eb] at cb;generalize putX x d=y at *;generalize plusX x d=pl at *;generalize killX x d.id=kx at *;obtain⟨kx,was⟩:=kx;simp only at ck cr cD hS hD hkl;generalize sgF [d]=s at *;refine acall_enter 9 [] Tryz.ntmps18 Tryz.func18 rfl (fun _ _=>Tryz.call18 _ _) (by simp) (fun HO=>?_);apply aw_reg;intro K h;simp(disch:=omega);apply h;clear h K;refine aw_then fun K1 hK1=>?_;refine aw_reg fun K hK=>?_;simp(disch:=omega) ;refine acall_is (ce _ _) ?_;simp(disch:=omega) ;refine acall_is (cv _ _) ?_;simp(disch:=omega) ;apply hK;clear hK K;apply aw_iff rfl;apply aw_skip;simp(disch:=omega) ;apply hK1;clear hK1;refine aw_reg fun K hK=>?_;simp(disch:=omega) ;refine acall_is (ck _ _) ?_;simp(disch:=omega) ;apply hK;clear hK K;refine aw_then fun K1 hK1=>?_;refine aw_reg fun K hK=>?_;have key:∀e,envLe (H.length+3) T.length e [(2,.ptr H.length 0),(3,.ptr (H.length+1) 0),(4,.ptr (H.length+2) 0),(32,.bool false)]→K ⟨e,H++[.cells (ixC (segS kx) (segD kx)),.cells (dcC d),.cells [.sl 0 [] .full,.sl 0 [] .full]],T⟩:=by
  intro e he;refine hK _ (aw_hok fun ho=>aw_weak ⟨[(2,.ptr H.length 0),(3,.ptr (H.length+1) 0),(4,.ptr (H.length+2) 0),(32,.bool false)],_,_⟩ (weak_to [] [] (by simp) (by simp) (by simp) (by simp) ho (by simpa using he)) ?_);apply aw_iff rfl;apply aw_skip;simp(disch:=omega) ;apply hK1;clear hK1;refine aw_reg fun K hK=>?_;simp(disch:=omega) ;refine acall_is (cb _ _) ?_;simp(disch:=omega) ;apply hK;clear hK K;refine aw_reg fun K hK=>?_;simp(disch:=omega) ;refine acall_is (cr _ _) ?_;simp(disch:=omega) ;refine acall_is (ct _ _) ?_;simp(disch:=omega) ;apply hK;clear hK K;apply aw_ret;simp(disch:=omega) ;exact⟨rfl,rfl⟩
 cases was with
 |false=>
  simp(disch:=omega) ;refine acall_is (cD _ _) ?_;simp(disch:=omega)[b1,b2];refine key _ ?_;simp
 |true=>
  simp(disch:=omega) ;refine key _ ?_;simp
attribute [-simp] List.getD_eq_getElem?_getD in
theorem titled_ok (id:Int)(w:Bs)(H:List Blk)(T:Toks):ACall Tryz.prog 26 [.int .i64 id,.str w] H T (Is (.agg (dcC (tit id w))) H T):=by
 refine ACall.dropA ?_ (by simp);refine acall_enter 5 [] Tryz.ntmps26 Tryz.func26 rfl (fun _ _=>Tryz.call26 _ _) (by simp) (fun HO=>?_);apply aw_reg;intro K h;simp(disch:=omega);apply h;clear h K;apply aw_reg;intro K h;simp(disch:=omega);apply h;clear h K;apply aw_ret;simp(disch:=omega) ;rfl
abbrev opC (o:Chg):List AV:=.bool o.1::dcC o.2
def opsAV (l:List Chg):List AV:=l.flatMap opC
abbrev o0:Chg:=(false,d0)
theorem ops_rows:CellsK opC 4:=fun _=>rfl
theorem opsAV_len (l:List Chg):(opsAV l).length=l.length*4:=rows_len ops_rows l
theorem opsAV_at (l:List Chg)(i:Nat)(h:i<l.length):(opsAV l).getD (i*4) .top=.bool (l.getD i o0).1∧(opsAV l).getD (i*4+1) .top=.int .i64 (l.getD i o0).2.id:=⟨rows_at ops_rows l i 0 o0 h (by omega),rows_at ops_rows l i 1 o0 h (by omega)⟩
theorem opsAV_cut (l:List Chg)(i:Nat)(h:i<l.length):((opsAV l).drop (i*4+1)).take 3=dcC (l.getD i o0).2:=by
 have h1:=rows_cut ops_rows l i o0 h;have h2:((opsAV l).drop (i*4+1)).take 3=(((opsAV l).drop (i*4)).take 4).drop 1:=by
  rw[List.drop_take,List.drop_drop]
 rw[h2];unfold opsAV;rw[h1];rfl
@[simp] theorem below_ops (n t:Nat) (l:List Chg):BelowAll n t (opsAV l):=rows_below (f:=opC) (fun x=>by simp) l
theorem IX.szB {l:List Chg}{B m:Nat}{x:List Sd}(h:IX (ofL l) B x)(hl:l.length≤B)(hw:∀o∈l,validD o.2=true→Wee m o.2)(hB:B≤40)(hm:B*m≤1000):BX m x∧x.length≤7:=by
 have ha:(alive x).length≤B:=Nat.le_trans (pool_len h.g.nd h.p.each) hl;refine⟨h.bx (fun d ⟨o,ho,e,hv⟩=>by rw[←e] at hv ⊢;exact hw o ho hv) ha hB hm,?_⟩;rcases Nat.lt_or_ge 7 x.length with h7|h7
 ·have h1:=tidy_len h.g h.t ha (fun e=>by rw[e] at h7;simp at h7);have h2:2 ^ 7≤2 ^ (x.length-1):=Nat.pow_le_pow_right (by omega) (by omega);omega
 ·exact h7
attribute [-simp] List.getD_eq_getElem?_getD in
theorem play_ok {m B:Nat}(l:List Chg)(hl:l.length≤B)(hs:∀o∈l,SzD o.2)(hw:∀o∈l,validD o.2=true→Wee m o.2)(hB:B≤40)(hm:B*m≤1000)(H:List Blk)(T:Toks)(tg:Tag) :
  ACall Tryz.prog 13 [.sl l.length (opsAV l) tg] H T (Is (xAV (playX l)) H T):=by
 refine ACall.untag1 ?_;refine ACall.drop' ?_ (by simp);have HOx:∀x,HOk H T→HOk (H++[.cells [.sl 0 [] .full,.sl 0 [] .full],.cells (ixC (segS x) (segD x))]) T:=fun x HO=>by
  have:=(HO.snoc (vs:=[.sl 0 [] .full,.sl 0 [] .full]) (by simp)).snoc (vs:=ixC (segS x) (segD x)) (by simp);simpa using this
 have cn:=fun H T=>newX_ok H T;refine acall_enter 7 [] Tryz.ntmps13 Tryz.func13 rfl (fun _ _=>Tryz.call13 _ _) (by simp) (fun HO=>?_);have HOx:=fun x=>HOx x HO;apply aw_reg;intro K h;simp(disch:=omega);apply h;clear h K;refine aw_reg fun K hK=>?_;simp(disch:=omega) ;refine acall_is (cn _ _) ?_;simp(disch:=omega) ;apply hK;clear hK K;refine aw_then fun K1 hK1=>?_;apply aw_reg;intro K h;simp(disch:=omega);apply h;clear h K;apply aw_block;refine aw_loop (X:=Nat) (fun i=>⟨[(0,.sl l.length (opsAV l) .none),(2,.ptr H.length 0),(3,.ptr (H.length+1) 0),(4,.int .i64 (i:Nat))],H++[.cells [.sl 0 [] .full,.sl 0 [] .full],.cells (ixC (segS (playX (l.take i))) (segD (playX (l.take i))))],T⟩)
  (fun i=>i≤l.length) (fun i=>l.length-i) 0 ?_ ?_ ?_
 ·exact Nat.zero_le _
 ·refine weak_to [] [] ?_ ?_ ?_ ?_ (HOx _) ?_
  all_goals simp[playX,segS,segD]
 ·intro i g1;have hx:=play_ix hl (by omega) i g1;obtain⟨hb,h7⟩:=hx.szB hl hw hB hm;refine aw_then fun K2 hK2=>?_
  by_cases hk:i<l.length
  ·have b1:decide ((i:Int)<(l.length:Int))=true:=decide_eq_true (by omega);refine aw_reg fun K hK=>?_;simp(disch:=omega)[hk];apply hK;clear hK K;apply aw_ift rfl;obtain⟨a1,a2⟩:=opsAV_at l i hk;have a3:=opsAV_cut l i hk;have hmem:l.getD i o0∈l:=getD_mem l i o0 hk;have hnext:playX (l.take (i+1))=chgX (playX (l.take i)) (l.getD i o0):=by
    unfold playX;rw[take_getD l i o0 hk,List.foldl_append];rfl
   have hx2:=play_ix hl (by omega) (i+1) hk;have hpool:∀{d},ofL l d→validD d=true→(alive (plusX (playX (l.take i)) d)).length≤B:=fun {d} h1 h2=>
    Nat.le_trans (pool_len (plus_good hx.g h2 (.inl (by have:=hb.a;omega))).nd (hx.p.plus h1 (by omega)).each) hl
   generalize hgz:playX (l.take (i+1))=z at *;generalize playX (l.take i)=x at *;generalize hgo:l.getD i o0=o at *;obtain⟨dr,d⟩:=o;simp only at a1 a2 a3;have hsd:=hs _ hmem;simp only at hsd;apply aw_skip;simp(disch:=omega) ;apply hK2;clear hK2;refine aw_then fun K3 hK3=>?_;apply aw_block;refine aw_reg fun K hK=>?_;simp(disch:=omega)[a1,hk,opsAV_len];apply hK;clear hK K
   cases dr with
   |true=>
    have cd:=fun H T=>dropC_ok hb hx.t (by omega) d.id H T;have e:z=dropX x d.id:=by rw[hnext];unfold chgX;rw[if_pos rfl]
    rw[←e] at cd;apply aw_ift rfl;refine aw_draw0 [11] [0,0,0,0,0,0,0,0,0,0,0,0] [[10]] drawMixed (by kernel_rfl) (by kernel_rfl) fun K hK=>?_;simp(disch:=omega)[a2,hk,opsAV_len];refine dcall_is (cd _ _) rfl ?_;simp(disch:=omega) ;apply hK;clear hK K;apply hK3;clear hK3;refine aw_reg0 fun K hK=>?_;simp(disch:=omega) ;apply hK;clear hK K;refine⟨i+1,by show i+1≤_;omega,by show l.length-(i+1)<l.length-i;omega,?_⟩;refine weak_to [] [] ?_ ?_ ?_ ?_ (HOx _) ?_
    all_goals simp[hgz]
   |false=>
    apply aw_iff rfl;have hend:∀e G,envLe (H.length+2) T.length e [(0,.sl l.length (opsAV l) .none),(2,.ptr H.length 0),(3,.ptr (H.length+1) 0),(4,.int .i64 (i:Nat))]→
      K3 ⟨e,H++.cells [.sl 0 [] .full,.sl 0 [] .full]::.cells (ixC (segS z) (segD z))::G,T⟩:=by
     intro e G he;refine hK3 _ (aw_weak ⟨[(0,.sl l.length (opsAV l) .none),(2,.ptr H.length 0),(3,.ptr (H.length+1) 0),(4,.int .i64 (i:Nat))],H++[.cells [.sl 0 [] .full,.sl 0 [] .full],.cells (ixC (segS z) (segD z))],T⟩ (weak_to G [] (by simp) (by simp) (by simp) (by simp) (HOx _) (by simpa using he)) ?_);refine aw_reg0 fun K hK=>?_;simp(disch:=omega) ;apply hK;clear hK K;refine⟨i+1,by show i+1≤_;omega,by show l.length-(i+1)<l.length-i;omega,?_⟩;refine weak_to [] [] ?_ ?_ ?_ ?_ (HOx _) ?_
     all_goals simp[hgz]
    clear hK3
    cases hv:validD d with
    |true=>
     have hd:ofL l d:=⟨_,hmem,rfl,hv⟩
     have hp:=hpool hd hv;have cp:=fun H T=>putC_ok hb hx.t (by omega) hsd (hw _ hmem hv) hv (by omega) (Nat.le_trans (Nat.mul_le_mul_right m hp) hm) H T;have e:z=putX x d:=by rw[hnext];unfold chgX;rw[if_neg (by simp),if_pos hv]
     rw[←e] at cp;refine aw_draw [10,11] [0,0,0,0,0,0,0,0,0,0,0,1,2] [[0,1,2,3,4,5,6,7,8,9],[9]] drawMixed (by kernel_rfl) (by kernel_rfl) fun K hK=>?_;simp(disch:=omega)[a3,hk,opsAV_len];refine dcall_is (cp _ _) rfl ?_;simp(disch:=omega)[a3,hk,opsAV_len];refine⟨cp _ _,hK _ ?_⟩;clear hK K;apply aw_reg;intro K h;simp(disch:=omega);apply h;clear h K;apply aw_ift rfl;refine aw_reg0 fun K hK=>?_;simp(disch:=omega) ;apply hK;clear hK K;refine hend _ [_] ?_;simp
    |false=>
     have cp:=fun H T=>putC_bad (x:=x) hsd hv H T;have e:z=x:=by rw[hnext];unfold chgX;rw[if_neg (by simp),if_neg (by rw[hv];simp)]
     refine aw_draw [10,11] [0,0,0,0,0,0,0,0,0,0,0,1,2] [[0,1,2,3,4,5,6,7,8,9],[9]] drawMixed (by kernel_rfl) (by kernel_rfl) fun K hK=>?_;simp(disch:=omega)[a3,hk,opsAV_len];refine dcall_is (cp _ _) rfl ?_;simp(disch:=omega)[a3,hk,opsAV_len];refine⟨cp _ _,hK _ ?_⟩;clear hK K;apply aw_reg;intro K h;simp(disch:=omega);apply h;clear h K;apply aw_iff rfl;apply aw_skip;rw[←e];refine hend _ [_] ?_;simp
  ·have b1:decide ((i:Int)<(l.length:Int))=false:=decide_eq_false (by omega);have:i=l.length:=by omega
   subst this;refine aw_reg fun K hK=>?_;simp(disch:=omega)[b1,hk];apply hK;clear hK K;apply aw_iff rfl;apply aw_exit;simp(disch:=omega) ;apply hK1;clear hK1;apply aw_reg;intro K h;simp(disch:=omega);apply h;clear h K;apply aw_ret;simp(disch:=omega) 
theorem plus_le {x:List Sd}(h:GX x)(d:Dc):(alive (plusX x d)).length≤(alive x).length+1:=by
 rw[plus_alive h,List.length_append,List.length_singleton];have:=List.length_filter_le (fun y:Dc=>!decide (y.id=d.id)) (alive x);omega
def exL:List Chg:=[(false,tit 1 [97]),(false,tit 2 [97]),(false,tit 3 [98])]
theorem tit_szd (id:Int)(w:Bs)(hw:w.length≤maxLen):SzD (tit id w):=⟨by simp[tit,maxLen],fun z hz=>by
 have:z=⟨1,[(w,0)]⟩:=by simpa[tit] using hz
 subst this;exact⟨by simp[maxLen],fun y hy=>by
  have:y=(w,0):=by simpa using hy
  rw[this];exact hw⟩,by simp[tit,maxLen]⟩
attribute [-simp] List.getD_eq_getElem?_getD in
theorem awakeX_ok (H:List Blk)(T:Toks):ACall Tryz.prog 10 [] H T (Is (.bool true) H T):=by
 refine ACall.drop' ?_ (by simp);have v4:validD (tit 1 [99])=true:=by decide +kernel
 have hw:∀o∈exL++[(false,tit 1 [99])],validD o.2=true→Wee 1 o.2:=fun o ho _=>by
  simp[exL] at ho;rcases ho with rfl|rfl|rfl|rfl<;>exact wee_tit _ _
 have hs:∀o∈exL,SzD o.2:=fun o ho=>by
  simp[exL] at ho;rcases ho with rfl|rfl|rfl<;>exact tit_szd _ _ (by simp[maxLen])
 have ct1:=fun H T=>titled_ok 1 [97] H T;have ct2:=fun H T=>titled_ok 2 [97] H T;have ct3:=fun H T=>titled_ok 3 [98] H T;have ct4:=fun H T=>titled_ok 1 [99] H T;have cp:=fun H T=>play_ok (m:=1) (B:=3) exL (by simp[exL]) hs (fun o ho=>hw o (List.mem_append_left _ ho)) (by omega) (by omega) H T .full;have hx:=play_ix (l:=exL) (B:=3) (by simp[exL]) (by omega) 3 (by simp[exL]);obtain⟨hbx,h7⟩:=hx.szB (m:=1) (by simp[exL]) (fun o ho=>hw o (List.mem_append_left _ ho)) (by omega) (by omega);have eX:playX (exL.take 3)=exX:=rfl;have eX2:playX exL=exX:=rfl;rw[eX] at hx hbx h7;rw[eX2] at cp;have hy:=play_ix (l:=exL++[(false,tit 1 [99])]) (B:=4) (by simp[exL]) (by omega) 4 (by simp[exL]);obtain⟨hby,h8⟩:=hy.szB (m:=1) (by simp[exL]) hw (by omega) (by omega);have eY:playX ((exL++[(false,tit 1 [99])]).take 4)=exY:=by
  show chgX exX (false,tit 1 [99])=exY;unfold chgX;rw[if_neg (by simp),if_pos v4];rfl
 rw[eY] at hy hby h8;have hpl:=plus_le hx.g (tit 1 [99]);have hal:(alive exX).length≤3:=Nat.le_trans (pool_len hx.g.nd hx.p.each) (by simp[exL]);have cq:=fun H T=>putC_ok hbx hx.t (by omega) (tit_szd 1 [99] (by simp[maxLen])) (wee_tit 1 [99]) v4 (by omega) (by omega) H T;rw[show putX exX (tit 1 [99])=exY from rfl] at cq;have cf:=fun H T=>findX_ok hby (by omega) (by omega) 1 [97] H T;have cv:=fun H T=>hby.valid_ok hy.t (by omega) H T;have hvY:=all_vd hy.g;have hq:=findQ_all hy.g (1,[97]);have q1:(findQ exY (1,[97]) exY.length).length≤5000:=by
  rw[hq];have h1:=postF_len (allX exY) (1,[97]);have h2:(allX exY).length=(alive exY).length:=sortD_len _;have:=hby.a;omega
 have q2:∀p∈findQ exY (1,[97]) exY.length,p.2.length≤maxLen:=fun p hp=>by
  rw[hq] at hp;refine Nat.le_trans (hby.post (by omega) (fun d hd=>?_) (1,[97]) p hp) (by decide);obtain⟨q,hq,hd⟩:=all_mem.1 hd;exact⟨q,hq,lv_sub hd⟩
 have cD:=fun H T=>docsP_ok (findQ exY (1,[97]) exY.length) q1 q2 H T .none;have eD:docsL (findQ exY (1,[97]) exY.length)=[2]:=by
  unfold docsL;rw[hq,if_pos (validL_post hvY.lt hvY.v _)];exact exY_find
 rw[eD] at cD;have cs:=fun H T=>sameInts_ok [2] [2] (by simp[maxLen]) (by simp[maxLen]) H T .none .full;have x1:(segS exX).length=2:=by rw[segS_len,ex_x];rfl
 have x2:=(ssAV_at (segS exX) 0 (by omega)).1;rw[show (segS exX).getD 0 noSeg=sgF [tit 1 [97],tit 2 [97]] by rw[ex_x];rfl] at x2;have x3:(sgF [tit 1 [97],tit 2 [97]]).docs.length=2:=rfl;have y1:(segS exY).length=1:=by rw[segS_len,ex_y];rfl
 have eo:opsAV exL=[.bool false]++dcC (tit 1 [97])++[.bool false]++dcC (tit 2 [97])++[.bool false]++dcC (tit 3 [98]):=rfl;rw[eo,show exL.length=3 from rfl] at cp;generalize sgF [tit 1 [97],tit 2 [97]]=s0 at *;generalize findQ exY (1,[97]) exY.length=fq at *;clear hx hbx hy hby hs hw eo eD hq q1 q2 hvY hpl hal eX eX2 eY;generalize tit 1 [97]=d1 at *;generalize tit 2 [97]=d2 at *;generalize tit 3 [98]=d3 at *;generalize tit 1 [99]=d4 at *;generalize exX=X at *;generalize exY=Y at *;have S1:=ssAV_len (segS X);simp only[xAV,ixAV,ixC,y1] at cf cv;refine acall_enter 4 [] Tryz.ntmps10 Tryz.func10 rfl (fun _ _=>Tryz.call10 _ _) (by simp) (fun HO=>?_);apply aw_reg;intro K h;simp(disch:=omega);apply h;clear h K;refine aw_reg fun K hK=>?_;simp(disch:=omega) ;refine acall_is (ct1 _ _) ?_;simp(disch:=omega) ;refine acall_is (ct2 _ _) ?_;simp(disch:=omega) ;refine acall_is (ct3 _ _) ?_;simp(disch:=omega) ;refine acall_is (cp _ _) ?_;simp(disch:=omega) ;apply hK;clear hK K;refine aw_draw [6,7] [0,0,0,0,0,0,0,1,2] [[0,1,2,3,4,5],[5]] drawMixed (by kernel_rfl) (by kernel_rfl) fun K hK=>?_;simp(disch:=omega) ;refine dcall_is (ct4 _ _) rfl ?_;simp(disch:=omega) ;refine dcall_is (cq _ _) rfl ?_;simp(disch:=omega) ;refine⟨⟨ct4 _ _,cq _ _⟩,hK _ ?_⟩;clear hK K;refine aw_reg fun K hK=>?_;simp(disch:=omega)[x1,x2,x3,y1,S1];refine acall_is (cf _ _) ?_;simp(disch:=omega)[x1,x2,x3,y1,S1];refine acall_is (cD _ _) ?_;simp(disch:=omega) ;refine acall_is (cs _ _) ?_;simp(disch:=omega) ;refine acall_is (cv _ _) ?_;simp(disch:=omega) ;apply hK;clear hK K;apply aw_ret;simp(disch:=omega) 
def i8s (l:List Int):List AV:=l.map (.int .i8)
@[simp] theorem below_i8 (n t:Nat) (l:List Int):BelowAll n t (i8s l):=fun v hv=>by
 obtain⟨x,_,rfl⟩:=List.mem_map.1 hv;simp
theorem i8s_len (l:List Int):(i8s l).length=l.length:=List.length_map ..
attribute [-simp] List.getD_eq_getElem?_getD in
theorem indexSize_ok (l:List Int)(hv:∀v∈l,-128≤v∧v≤127)(hl:l.length≤maxLen):ACall Tryz.prog 5 [.sl l.length (i8s l) .none] [] [] (fun r _ _=>r=.bool true):=by
 have hm:maxLen≤9223372036854775807:=by decide
 have ca:=fun H=>awakeX_ok H [];have cn:=fun H=>newX_ok H [];refine acall_enter 11 [] Tryz.ntmps5 Tryz.func5 rfl (fun _ _=>Tryz.call5 _ _) (by simp) (fun HO=>?_);apply aw_reg;intro K h;simp(disch:=omega);apply h;clear h K;refine aw_then fun K1 hK1=>?_;refine aw_reg fun K hK=>?_;simp(disch:=omega) ;refine acall_is (ca _) ?_;simp(disch:=omega) ;apply hK;clear hK K;apply aw_iff rfl;apply aw_skip;apply hK1;clear hK1;refine aw_then fun K1 hK1=>?_
 by_cases h40:40<l.length
 ·have b1:decide ((40:Int)<(l.length:Int))=true:=decide_eq_true (by omega);refine aw_reg fun K hK=>?_;simp(disch:=omega)[b1,h40];apply hK;clear hK K;apply aw_ift rfl;apply aw_reg;intro K h;simp(disch:=omega);apply h;clear h K;apply aw_ret;simp(disch:=omega) 
 have b1:decide ((40:Int)<(l.length:Int))=false:=decide_eq_false (by omega);refine aw_reg fun K hK=>?_;simp(disch:=omega)[b1,h40];apply hK;clear hK K;apply aw_iff rfl;apply aw_skip;apply hK1;clear hK1;refine aw_reg fun K hK=>?_;simp(disch:=omega) ;refine acall_is (cn _) ?_;simp(disch:=omega) ;apply hK;clear hK K;have HOx:∀x,HOk [Blk.cells (ixC (segS x) (segD x))] []:=fun x=>HOk.snoc (H:=[]) (vs:=ixC (segS x) (segD x)) HO (by simp);refine aw_then fun K1 hK1=>?_;apply aw_reg;intro K h;simp(disch:=omega);apply h;clear h K;apply aw_block;refine aw_loop (X:=Nat) (fun i=>⟨[(0,.sl l.length (i8s l) .none),(3,.ptr 0 0),(4,.int .i64 (i:Nat))],[.cells (ixC (segS (stX (l.take i))) (segD (stX (l.take i))))],[]⟩)
  (fun i=>i≤l.length) (fun i=>l.length-i) 0 ?_ ?_ ?_
 ·exact Nat.zero_le _
 ·refine weak_to [] [] ?_ ?_ ?_ ?_ (HOx _) ?_
  all_goals simp[stX,segS,segD]
 ·intro i g1;have hx:=st_ix hv i g1;obtain⟨hb,h6⟩:=one_bx hx;refine aw_then fun K2 hK2=>?_
  by_cases hk:i<l.length
  ·have b1:decide ((i:Int)<(l.length:Int))=true:=decide_eq_true (by omega);refine aw_reg fun K hK=>?_;simp(disch:=omega)[b1,hk];apply hK;clear hK K;apply aw_ift rfl;have hvi:=hv _ (getD_mem l i 0 hk);have a1:(i8s l).getD i .top=.int .i8 (l.getD i 0):=by
    simp[i8s,List.getD_eq_getElem?_getD,List.getElem?_map,List.getElem?_eq_getElem hk]
   have hnext:stX (l.take (i+1))=opX (stX (l.take i)) (l.getD i 0):=by
    unfold stX;rw[take_getD l i 0 hk,List.foldl_append];rfl
   have hid:=idOf_b hvi;have eid:idOf (l.getD i 0)=1+Int.tmod (max (l.getD i 0) (-(l.getD i 0))) 20:=rfl;generalize hgz:stX (l.take (i+1))=z at *;generalize stX (l.take i)=x at *;generalize l.getD i 0=v at *;apply aw_skip;apply hK2;clear hK2;refine aw_then fun K3 hK3=>?_;apply aw_block;refine aw_draw [] [0,0,0,0,0,0,0,0,0,0,0,0,0,0,0] [] drawMixed (by kernel_rfl) (by kernel_rfl) fun K hK=>?_;simp(disch:=omega)[a1,hk,i8s_len];apply hK;clear hK K;have hend:∀e G,envLe 1 0 e [(0,.sl l.length (i8s l) .none),(3,.ptr 0 0),(4,.int .i64 (i:Nat))]→K3 ⟨e,.cells (ixC (segS z) (segD z))::G,[]⟩:=by
    intro e G he;refine hK3 _ (aw_weak ⟨[(0,.sl l.length (i8s l) .none),(3,.ptr 0 0),(4,.int .i64 (i:Nat))],[.cells (ixC (segS z) (segD z))],[]⟩ (weak_to G [] (by simp) (by simp) (by simp) (by simp) (HOx _) (by simpa using he)) ?_);refine aw_reg0 fun K hK=>?_;simp(disch:=omega) ;apply hK;clear hK K;refine⟨i+1,by show i+1≤_;omega,by show l.length-(i+1)<l.length-i;omega,?_⟩;refine weak_to [] [] ?_ ?_ ?_ ?_ (HOx _) ?_
    all_goals simp[hgz]
   clear hK3;refine aw_then fun K4 hK4=>?_
   by_cases hv0:v<0
   ·have b2:decide (v<0)=true:=decide_eq_true hv0;have e:z=dropX x (idOf v):=by rw[hnext];unfold opX;rw[if_pos hv0]
    have cd:=fun H=>dropC_ok hb hx.t (by omega) (idOf v) H [];rw[←e,eid] at cd;refine aw_reg fun K hK=>?_;simp(disch:=omega)[a1,hk,i8s_len,b2,hv0];apply hK;clear hK K;apply aw_ift rfl;refine aw_reg fun K hK=>?_;simp(disch:=omega) ;refine acall_is (cd _) ?_;simp(disch:=omega) ;apply hK;clear hK K;apply aw_exit;simp(disch:=omega) ;refine hend _ [] ?_;simp
   ·have b2:decide (v<0)=false:=decide_eq_false hv0;have hd:oneW (tit (idOf v) [119]):=⟨_,hid,rfl⟩
    have e:z=putX x (tit (idOf v) [119]):=by rw[hnext];unfold opX;rw[if_neg hv0]
    have hp:=one_plus hx hd;have ct:=fun H=>titled_ok (idOf v) [119] H [];have cp:=fun H=>putC_ok hb hx.t (by omega) (tit_szd (idOf v) [119] (by simp[maxLen])) (wee_tit (idOf v) [119]) (one_valid hd) (by omega) (by omega) H [];rw[←e] at cp;rw[eid] at ct cp;generalize tit (1+Int.tmod (max v (-v)) 20) [119]=d at *;refine aw_reg fun K hK=>?_;simp(disch:=omega)[a1,hk,i8s_len,b2,hv0];apply hK;clear hK K;apply aw_iff rfl;apply aw_skip;apply hK4;clear hK4;refine aw_draw [7,8] [0,0,0,0,0,0,0,0,1,2] [[0,1,2,3,4,5,6],[6]] drawMixed (by kernel_rfl) (by kernel_rfl) fun K hK=>?_;simp(disch:=omega) ;refine dcall_is (ct _) rfl ?_;simp(disch:=omega) ;refine dcall_is (cp _) rfl ?_;simp(disch:=omega) ;refine⟨⟨ct _,cp _⟩,hK _ ?_⟩;clear hK K;refine aw_then fun K4 hK4=>?_;apply aw_reg;intro K h;simp(disch:=omega);apply h;clear h K;apply aw_iff rfl;apply aw_skip;apply hK4;clear hK4;refine aw_reg0 fun K hK=>?_;simp(disch:=omega) ;apply hK;clear hK K;refine hend _ [_] ?_;simp
  ·have b1:decide ((i:Int)<(l.length:Int))=false:=decide_eq_false (by omega);have:i=l.length:=by omega
   subst this;refine aw_reg fun K hK=>?_;simp(disch:=omega)[hk];apply hK;clear hK K;apply aw_iff rfl;apply aw_exit;simp(disch:=omega) ;apply hK1;clear hK1;rw[List.take_length] at hx hb h6;generalize stX l=x at *;have hS:=segS_len x;have hD:=segD_len x;have hDS:(segD x).length=(segS x).length:=by omega
   have hS6:(segS x).length≤6:=by omega
   have b3:decide ((12:Int)<((segS x).length:Int))=false:=decide_eq_false (by omega);have b33:¬12<(segS x).length:=by omega
   have cD:=fun H=>docsX_ok hb (by omega) H [];have cF:=fun H=>findX_ok hb (by omega) (by omega) 1 [119] H [];obtain⟨p1,p2⟩:=one_post hx;have cC:=fun H=>count_ok (findQ x (1,[119]) x.length) p1 p2 H [] .none;have hcnt:=one_count hx;have hall:=cntX_all hx.g;have hdl:((docsQ x x.length).length:Int)=(alive x).length:=by
    rw[docsQ_all hx.g,List.length_map];show ((sortD (alive x)).length:Int)=_;rw[sortD_len]
   generalize findQ x (1,[119]) x.length=fq at *;generalize docsQ x x.length=dq at *;refine aw_then fun K1 hK1=>?_;refine aw_reg fun K hK=>?_;simp(disch:=omega)[b3,b33,hDS];apply hK;clear hK K;apply aw_iff rfl;apply aw_skip;apply hK1;clear hK1;apply aw_reg;intro K h;simp(disch:=omega);apply h;clear h K;refine aw_then fun K1 hK1=>?_;apply aw_reg;intro K h;simp(disch:=omega);apply h;clear h K;apply aw_block;refine aw_loop (X:=Nat) (fun j=>⟨[(3,.ptr 0 0),(8,.int .i64 (cntX x j)),(9,.int .i64 (j:Nat))],[.cells (ixC (segS x) (segD x))],[]⟩) (fun j=>j≤x.length) (fun j=>x.length-j) 0 ?_ ?_ ?_
   ·exact Nat.zero_le _
   ·refine weak_to [] [] ?_ ?_ ?_ ?_ (HOx _) ?_
    all_goals simp[cntX]
   ·intro j g1;refine aw_then fun K2 hK2=>?_
    by_cases hj:j<(segS x).length
    ·have hjx:j<x.length:=by omega
     have hjD:j<(segD x).length:=by omega
     have hp:=getX hjx;have a1:=(ssAV_at (segS x) j hj).1;have d1:=ddAV_at (segD x) j hjD;rw[segS_get hjx] at a1;rw[segD_get hjx] at d1;have hpv:=fun(h:j-1<(segS x).length)=>(ssAV_at (segS x) (j-1) h).1;have hdl:(sgF (x.getD j e0).1).docs.length=(x.getD j e0).1.length:=by show ((x.getD j e0).1.map (·.id)).length=_;rw[List.length_map]
     have h0:=List.length_pos_iff.2 (hx.g.ne _ hp);have h2:=hx.t.1 j hjx;have h3:=hx.t.2 (j-1);have h40:=(hb.b _ hp).1;have hn:=cntX_next hjx;have hb1:=cntX_b hx.g j (by omega);have ha:=hb.a;rw[←hdl] at h0 h2 h40 hn;have hprev:j≠0→((segS x).getD (j-1) noSeg).docs.length=(x.getD (j-1) e0).1.length:=fun h=>by
      rw[segS_get (by omega)];show ((x.getD (j-1) e0).1.map (·.id)).length=_;rw[List.length_map]
     have h41:j≠0→(x.getD (j-1) e0).1.length≤40:=fun h=>(hb.b _ (getX (by omega))).1;have hnx:j≠0→2*(sgF (x.getD j e0).1).docs.length≤((segS x).getD (j-1) noSeg).docs.length:=fun h=>by
      rw[hprev h,hdl];have:=h3 (by omega);rw[show j-1+1=j by omega] at this;exact this
     generalize hc1:cntX x (j+1)=c1 at *;generalize cntX x j=c at *;generalize (segS x).getD (j-1) noSeg=pv at *;generalize sgF (x.getD j e0).1=s at *;generalize (x.getD j e0).2=d at *;refine aw_reg fun K hK=>?_;simp(disch:=omega)[hj];apply hK;clear hK K;apply aw_ift rfl;apply aw_skip;apply hK2;clear hK2;refine aw_then fun K3 hK3=>?_;apply aw_block;refine aw_reg fun K hK=>?_;simp(disch:=omega)[a1,hj,ssAV_len];apply hK;clear hK K;refine aw_then fun K4 hK4=>?_;refine aw_reg fun K hK=>?_;have key:∀e,envLe 1 0 e [(3,.ptr 0 0),(8,.int .i64 c),(9,.int .i64 (j:Nat)),(10,.int .i64 (s.docs.length:Nat)),(114,.bool false)]→K ⟨e,[.cells (ixC (segS x) (segD x))],[]⟩:=by
      intro e he;refine hK _ (aw_weak ⟨[(3,.ptr 0 0),(8,.int .i64 c),(9,.int .i64 (j:Nat)),(10,.int .i64 (s.docs.length:Nat)),(114,.bool false)],[.cells (ixC (segS x) (segD x))],[]⟩ (weak_to [] [] (by simp) (by simp) (by simp) (by simp) (HOx _) (by simpa using he)) ?_);clear hK he;apply aw_iff rfl;apply aw_skip;apply hK4;clear hK4;refine aw_reg0 fun K hK=>?_;simp(disch:=omega)[d1,hjD,ddAV_len];apply hK;clear hK K;apply hK3;clear hK3;refine aw_reg0 fun K hK=>?_;simp(disch:=omega) ;apply hK;clear hK K;refine⟨j+1,by show j+1≤_;omega,by show x.length-(j+1)<x.length-j;omega,?_⟩;refine weak_to [] [] ?_ ?_ ?_ ?_ (HOx _) ?_
      all_goals simp[hc1,hn]
     have n0:((s.docs.length:Int)==0)=false:=by simp only[beq_eq_false_iff_ne,ne_eq];omega
     have n00:¬s.docs.length=0:=by omega
     have n1:¬s.docs=[]:=fun h=>by rw[h] at n00;simp at n00
     have n2:decide ((s.docs.length:Int)<2*(d.length:Int))=false:=decide_eq_false (by omega);have n22:¬s.docs.length<2*d.length:=by omega
     by_cases hj0:j=0
     ·subst hj0;simp(disch:=omega)[n0,n00,n1,n2,n22,d1,hjD,ddAV_len];refine key _ ?_;simp
     ·have hnx:=hnx hj0;have h41:=h41 hj0;rw[←hprev hj0] at h41;have j1:0<j:=by omega
      have ej:(j:Int)-1=((j-1:Nat):Int):=by omega
      have hj1:j-1<(segS x).length:=by omega
      have a2:=hpv hj1;have m1:decide ((pv.docs.length:Int)<2*(s.docs.length:Int))=false:=decide_eq_false (by omega);have m11:¬pv.docs.length<2*s.docs.length:=by omega
      simp(disch:=omega)[n0,n00,n1,n2,n22,d1,hjD,ddAV_len,j1,ej,hj1,a2,m1,m11,ssAV_len];refine key _ ?_;simp
    ·have:j=x.length:=by omega
     subst this;rw[hall];refine aw_reg fun K hK=>?_;simp(disch:=omega)[hj];apply hK;clear hK K;apply aw_iff rfl;apply aw_exit;simp(disch:=omega) ;apply hK1;clear hK1;refine aw_reg fun K hK=>?_;simp(disch:=omega) ;refine acall_is (cD _) ?_;simp(disch:=omega) ;refine acall_is (cF _) ?_;simp(disch:=omega) ;refine acall_is (cC _) ?_;simp(disch:=omega) ;apply hK;clear hK K;apply aw_ret;simp(disch:=omega) ;exact hcnt
open Go.ChangeShapes Go.WideShapes Go.ChangeAt Go.RowKit
section
variable {H : Type} {enc : TypeId × Value → H} {P : Program} {w : World} {base : Nat} {sp : Nat → Bool} {held : Bool} {t e : TypeId} {v : Value} {d : DataW H} {ps : List MemPlace} {r : Reach} {b0 : Nat}
theorem av_i8s (ht:P.underlying t=some (.slice e))(he:P.underlying e=some (.int .i8))(hp:0<P.cellsOf e)(hval:Value.okWide P w r b0 t v)(h:DataW.Trod enc P w base sp held t v d ps) :
  ∃s:List Int,((∀z∈s,-128≤z∧z≤127)∧s.length≤maxLen)∧Rep (lay0 w) 0 [] w (.sl s.length (i8s s) .none) v:=by
 obtain⟨a,l,c,rfl⟩:=okWide_slice ht hval;obtain⟨fuel,hf⟩:=h;obtain⟨zs,h1,h2,h3⟩:=rc_nums ht he hp hf;exact⟨zs,⟨fun z hz=>by simpa[Lit.wf,IntKind.min,IntKind.max,IntKind.signed,IntKind.bits] using h1 z hz,h2⟩,h3.rep⟩
end
end Go.Proofs.YtoejlmpbebjemaaGreat
