/- index.Words (layer 40).
  Conditions: sizes, as the theorems say. -/
import Derived.Test.YtoejlmpbebjemaaGreatXZb
import Derived.Test.YtoejlmpbebjemaaGreatXDf
import Derived.Test.YtoejlmpbebjemaaGreatXWq
import Derived.Test.YtoejlmpbebjemaaGreatXGr
set_option linter.all false
set_option maxRecDepth 100000
set_option maxHeartbeats 8000000
namespace Go.Proofs.YtoejlmpbebjemaaGreat
open Go.Proofs.Tryz(prog)
open Go Go.Am im cL eT
abbrev Gz (w:Bs):List AV:=[.str w]
def xA:eu Gz 1:=λ_=>rfl
def uz (n t:Nat)(w:Bs):aK n t (Gz w):=by simp
def yc {s:Sg}(hs:ve s)(f:Int)(p:Bs):(gZ s f p).length<=1000:=by
 unfold gZ
 split
 ·unfold uj;rw[ahz];exact aho (ahU _ _) hs.t
 ·simp
attribute [-simp] List.getD_eq_getElem?_getD in
def Hh {m:Nat}{x:List Sd}(h:BX m x)(hm:m<=1000)(hl:x.length<=400)(f:Int)(w:Bs)(a b:Nat)(H:List az)(T:au)(h1:H[a]?=some (.cells (iE (bf x) (bX x))))(h2:H[b]?=some (.cells [.int .i64 f])) :
  ar prog 98 [.str w,.ptr a 0,.ptr b 0] H T (Is (.bool (decide ((eF x (f,w) x.length).length=0))) H T):=by
 have cf:=λH T=>tE h hm hl f w H T;generalize eF x (f,w) x.length=q at *;have la:=(ahh.1 h1).1;have lb:=(ahh.1 h2).1;have ea:=aW h1;have eb:=aW h2;have e:((q.length:Int)==0)=decide (q.length=0):=by rw[ajT];simp
 refine ah 5 [] Tryz.ntmps98 Tryz.func98 rfl (λ_ _=>Tryz.call98 _ _) (by simp) (λHO=>?_);apply ae;intro K Z;simp(disch:=omega);apply Z;refine ae λK hK=>?_;simp(disch:=omega)[ea,eb,la,lb];refine ak (cf _ _) ?_;simp(disch:=omega)[e];apply hK;apply ay;simp(disch:=omega) ;exact⟨rfl,rfl,rfl⟩
attribute [-simp] List.getD_eq_getElem?_getD in
def Cp (g:FuncId)(bY:List AV)(H:List az)(T:au)(qP:aK H.length T.length bY) :
  ar prog 160 [.sl 0 [] .none,.fn g [] bY] H T (Is (.int .i64 (-1)) H T):=by
 refine ar.bV ?_ (by simp);refine ah 9 [] Tryz.ntmps160 Tryz.func160 rfl (λ_ _=>Tryz.call160 _ _) (by simp) (λHO=>?_);apply ae;intro K Z;simp(disch:=omega);apply Z;refine af λK1 aO=>?_;apply ae;intro K Z;simp(disch:=omega);apply Z;apply aj;refine aI (X:=Nat) (λk=>⟨[(7,.int .i64 0),(8,.int .i64 0)],H,T⟩) (λk=>True) (λk=>0) 0 trivial ?_ ?_
 ·refine ag [] [] ?_ ?_ ?_ ?_ HO ?_
  all_goals simp
 ·intro k _;apply ae;intro K Z;simp(disch:=omega);apply Z;refine af λK2 bc=>?_;refine aT rfl (λhk=>?_) (λhk=>?_)
  ·simp at hk
  ·apply aF;simp(disch:=omega) ;apply aO;clear aO;apply ae;intro K Z;simp(disch:=omega);apply Z;apply ay;simp(disch:=omega) 
attribute [-simp] List.getD_eq_getElem?_getD in
def zd (g:FuncId)(bY:List AV)(H:List az)(T:au)(qP:aK H.length T.length bY) :
  ar prog 96 [.sl 0 [] .none,.fn g [] bY] H T (Is (.sl 0 [] .none) H T):=by
 refine ar.bV ?_ (by simp);have ci:=Cp g bY H T qP;refine ah 10 [] Tryz.ntmps96 Tryz.func96 rfl (λ_ _=>Tryz.call96 _ _) (by simp) (λHO=>?_);apply ae;intro K Z;simp(disch:=omega);apply Z;refine ae λK hK=>?_;simp(disch:=omega) ;refine ak (ci) ?_;simp(disch:=omega) ;apply hK;refine af λK1 aO=>?_;apply ae;intro K Z;simp(disch:=omega);apply Z;apply aG rfl;apply ae;intro K Z;simp(disch:=omega);apply Z;apply ay;simp(disch:=omega) 
def qe (l:List Bs):(Lib.compact l).length<=l.length:=by
 unfold Lib.compact Lib.compactUpTo;rw[ahz];exact aho (ahU _ _) (by simp)
theorem tL {m:Nat}{x:List Sd}(h:BX m x)(f:Int)(p:Bs):∀i,i<=x.length->(uh x f p i).length<=i*1000
 |0,_=>by simp[uh]
 |i+1,hi=>by
  rw[AX f p hi,ahk];have h1:=tL h f p i (by omega);have h2:=yc (h.sz (gu hi)) f p;omega
attribute [-simp] List.getD_eq_getElem?_getD in
theorem zS {m:Nat}{x:List Sd}(h:BX m x)(hm:m<=1000)(hl:x.length<=400)(f:Int)(p:Bs)(hp:p.length<=maxLen)(H:List az)(T:au) :
  ar prog 42 [yH x,.int .i64 f,.str p] H T (Is (.sl (iZ x f p).length (strs (iZ x f p)) .none) H T):=by
 refine ar.pn ?_;show ar prog _ _ H T (BQ H T _);have Ga:=fG x;refine ah 14 [100022] Tryz.ntmps42 Tryz.func42 rfl (λ_ _=>Tryz.call42 _ _) (by simp) (λHO=>?_);apply ae;intro K Z;simp(disch:=omega);apply Z;have ff:bJ (H++[.cells (iE (bf x) (bX x)),.cells [.int .i64 f]]) T:=by
  have:=(HO.snoc (vs:=iE (bf x) (bX x)) (by simp)).snoc (vs:=[.int .i64 f]) (by simp);simpa using this
 apply ae;intro K Z;simp(disch:=omega);apply Z;refine af λK1 aO=>?_;apply ae;intro K Z;simp(disch:=omega);apply Z;apply aj;refine aI (X:=Nat×AV×List az) (λy=>⟨[(2,.str p),(3,.ptr H.length 0),(4,.ptr (H.length+1) 0),(7,y.2.1),(11,.sl (bf x).length (fK (bf x)) .none),(12,.int .i64 ((bf x).length:Nat)),(13,.int .i64 (y.1:Nat))],y.2.2,T⟩)
  (λy=>y.1<=x.length/\GR Gz 1 (H++[.cells (iE (bf x) (bX x)),.cells [.int .i64 f]]) T (uh x f p y.1) y.2.2 y.2.1) (λy=>x.length-y.1) (0,.sl 0 [] .full,H++[.cells (iE (bf x) (bX x)),.cells [.int .i64 f]]) ?_ ?_ ?_
 ·exact⟨ahu _,GR.nil ff⟩
 ·refine ag [] [] ?_ ?_ ?_ ?_ ff ?_
  all_goals simp
 ·rintro⟨i,out,J⟩ ⟨g1,hG⟩;simp only at g1 hG ⊢;have hJl:H.length+2<=J.length:=by have:=hG.pre.le;simp at this;omega
  have hb:=hG.below;apply ae;intro K Z;simp(disch:=omega);apply Z;refine af λK2 bc=>?_;refine aT rfl (λhk=>?_) (λhk=>?_)
  ·simp  at hk;have hi:i<x.length:=by omega
   have UH:=gu hi;have hcut:=ke (bf x) i hk;rw[fH hi] at hcut;have cw:=λH T=>KO (eB (x.getD i e0).1) (h.sz UH) f p hp H T;have sr:=yc (h.sz UH) f p;have lM:=AX f p hi;have hol:(uh x f p i).length<=i*1000:=tL h f p i (by omega);generalize aeX:uh x f p (i+1)=nx at *;generalize uh x f p i=d at *;generalize gZ (eB (x.getD i e0).1) f p=ws at *;generalize eB (x.getD i e0).1=s at *;have Rx:GR Gz 1 (H++[.cells (iE (bf x) (bX x)),.cells [.int .i64 f]]) T d (J++[.cells (dC s)]) out:=hG.more _ (hG.ok.snoc (by simp));have gf:(J++[.cells (dC s)])[H.length+1]?=some (.cells [.int .i64 f]):=by
    obtain⟨X,hX⟩:=hG.pre;rw[hX];simp
   have ef:=aW gf;have lf:=(ahh.1 gf).1;have wL:=Rx.below;have ahd:H.length+2<=(J++[az.cells (dC s)]).length:=by simp;omega
   apply aq;simp(disch:=omega) ;apply bc;clear bc;refine af λK3 bD=>?_;apply aj;refine ae λK hK=>?_;simp(disch:=omega)[hcut,hk,dF];apply hK;have gs:(J++[az.cells (dC s)])[J.length]?=some (.cells (dC s)):=by simp
   have es:=aW gs;have ls:=(ahh.1 gs).1;have hst:∀w:List Bs,strs w=w.flatMap Gz:=λw=>(lE w).symm;generalize Ru:J++[az.cells (dC s)]=J1 at *;generalize J.length=js at *;clear Ru hG hb gf gs;have fin:∀e J' pt,GR Gz 1 (H++[.cells (iE (bf x) (bX x)),.cells [.int .i64 f]]) T nx J' pt->bu J'.length T.length e [(2,.str p),(3,.ptr H.length 0),(4,.ptr (H.length+1) 0),(7,pt),(11,.sl (bf x).length (fK (bf x)) .none),(12,.int .i64 ((bf x).length:Nat)),(13,.int .i64 (i:Nat))]->K3 ⟨e,J',T⟩:=by
    intro e J' pt Kl he;have jR:=Kl.pre.le;have vO:=Kl.below;refine bD _ (aH ⟨[(2,.str p),(3,.ptr H.length 0),(4,.ptr (H.length+1) 0),(7,pt),(11,.sl (bf x).length (fK (bf x)) .none),(12,.int .i64 ((bf x).length:Nat)),(13,.int .i64 (i:Nat))],J',T⟩ (ag [] [] (by simp) (by simp) (by simp at jR;show H.length<=J'.length;omega) (by simp) Kl.ok he) ?_);refine aB λK hK=>?_;simp(disch:=omega) ;apply hK;refine⟨(i+1,pt,J'),⟨by show i+1<=_;omega,by simp only[aeX];exact Kl⟩,by show x.length-(i+1)<x.length-i;omega,?_⟩;refine ag [] [] ?_ ?_ ?_ ?_ Kl.ok ?_
    all_goals simp at jR ⊢
    all_goals first|omega|(simp[vO];omega)
   clear bD;rcases Rx.o with⟨rfl,rfl⟩|⟨b,cap,rfl,h2,h3,h4⟩
   ·rw[aiQ] at lM
    cases ws with
    |nil=>
     refine aB λK hK=>?_;simp(disch:=omega)[es,ls,ef,lf];refine ak (cw _ _) ?_;simp(disch:=omega) ;apply hK;refine fin _ _ _ (by rw[lM];exact Rx) ?_;simp;omega
    |cons w1 wr=>
     have c1:(wr.length+1)*16<=140737488355328/\wr.length<=9223372036854775806:=by simp at sr;omega
     have hg:=λnc hn=>GR.first uz Rx (w1::wr) nc hn;simp only[<-hst,ahS,Nat.mul_one] at hg;refine aB λK hK=>?_;simp(disch:=omega)[es,ls,ef,lf];refine ak (cw _ _) ?_;simp(disch:=omega)[c1];intro nc hn;apply hK;refine fin _ _ _ (by rw[lM];exact hg nc hn) ?_;simp;omega
   ·have iY:=λhle=>GR.put xA uz h4 h2 Rx.pre Rx.ok ws hle;have vl:=λnc hn=>GR.grow (nc:=nc) xA uz h4 Rx.pre Rx.ok ws hn;have vO:(d.flatMap Gz++List.replicate ((cap-d.length)*1) AV.top).length=cap*1:=by
     rw[ahk,bU xA,ajU,<-Nat.add_mul]
     congr 1;omega
    refine aB λK hK=>?_;simp(disch:=omega)[es,ls,ef,lf];refine ak (cw _ _) ?_;simp(disch:=omega) ;refine⟨9,_,strs ws,ws.length,by kernel_rfl,h4,by rw[vO,G7],by simp,by simp;omega,by omega,by kernel_rfl,by simp,λhle=>?_,λnc hlt lC=>?_⟩
    ·have hg:=iY hle;rw[<-hst ws] at hg;simp only[G7];generalize hX:J1.set b _=J4 at hg ⊢;have kP:=hg.below;have jH:J1.length=J4.length:=by rw[<-hX,aiE]
     simp(disch:=omega) ;apply hK;refine fin _ _ _ (by rw[lM];exact hg) ?_;simp[kP];omega
    ·have hg:=vl nc lC;rw[<-hst ws] at hg;simp only[G7];generalize hX:J1++[az.cells _]=J4 at hg ⊢;have kP:=hg.below;have jH:J1.length+1=J4.length:=by rw[<-hX];simp
     clear vl iY es ef h4 hX;generalize J1.length=i2 at *;simp(disch:=omega) ;apply hK;refine fin _ _ _ (by rw[lM];exact hg) ?_;simp at kP;simp[kP];omega
  ·simp  at hk;have CE:i=x.length:=by omega
   subst CE;have hwq:iZ x f p=(qW (uh x f p x.length)).filter λw=>!decide ((eF x (f,w) x.length).length=0):=rfl;have hcl:=tL h f p x.length (ahj _);have Kt:=λw a b H T h1 h2=>Hh h hm hl f w a b H T h1 h2;generalize uh x f p x.length=d at *;have lh:=hG.pre.le;rcases hG.o with⟨rfl,rfl⟩|⟨b,cap,rfl,h2,h3,h4⟩
   ·have cs:=Lu J T .full;have cc:=Cu J T .full;have cd:=zd 98 [.ptr H.length 0,.ptr (H.length+1) 0] J T (by simp;omega);apply aF;simp(disch:=omega) ;apply aO;clear aO;refine ae λK hK=>?_;simp(disch:=omega) ;refine ak (cs) ?_;simp(disch:=omega) ;apply hK;refine ae λK hK=>?_;simp(disch:=omega) ;refine ak (cc) ?_;simp(disch:=omega) ;refine ak (cd) ?_;simp(disch:=omega) ;apply hK;apply ay;simp(disch:=omega) ;have hn:iZ x f p=[]:=by
     rw[hwq,show qW []=[] from aiJ.2 λy hy=>by simpa using(E8 [] y).1 hy];rfl
    rw[hn];refine⟨?_,⟨[],(ahH _).symm⟩,gj.same (by simp)⟩;obtain⟨X,hX⟩:=hG.pre;exact⟨az.cells (iE (bf x) (bX x))::az.cells [.int .i64 f]::X,by rw[hX];simp⟩
   ·have li:=(ahh.1 h4).1;rw[lE,Nat.mul_one] at h4;have cs:=PB d (List.replicate ((cap-d.length)) .top) b cap (by omega) J T h4;apply aF;simp(disch:=omega) ;apply aO;clear aO;refine ae λK hK=>?_;simp(disch:=omega) ;refine ak (cs) ?_;simp(disch:=omega) ;apply hK;have gi2:(J.set b (.cells (strs (pA d)++List.replicate ((cap-d.length)) AV.top)))[b]?=some (.cells (strs (pA d)++List.replicate ((cap-d.length)) AV.top)):=ahK li;have cc:=FX (pA d) (List.replicate ((cap-d.length)) .top) b cap (by rw[nM];omega) (J.set b (.cells (strs (pA d)++List.replicate ((cap-d.length)) AV.top))) T gi2 (qe _);rw[nM] at cc;rw[<-show qW d=Lib.compact (pA d) from rfl] at cc;have vb:(qW d).length<=1000000:=by
     have h1:=qe (pA d);rw[nM] at h1;exact aho h1 (by omega)
    have hRb:aK J.length T.length (strs (List.replicate (d.length-(qW d).length) [])++List.replicate ((cap-d.length)) AV.top):=λv hv=>by
     rcases ahw.1 hv with h|h
     ·obtain⟨w,_,rfl⟩:=ahl.1 h;simp
     ·rw[(List.mem_replicate.1 h).2];exact .top
    rw[List.set_set] at cc;have e3:strs (qW d++List.replicate (d.length-(qW d).length) [])++List.replicate ((cap-d.length)) AV.top=strs (qW d)++(strs (List.replicate (d.length-(qW d).length) [])++List.replicate ((cap-d.length)) AV.top):=by
     rw[<-vw,ahA]
    rw[e3] at cc;generalize strs (List.replicate (d.length-(qW d).length) [])++List.replicate ((cap-d.length)) AV.top=R at *;have qT:gM (H++[.cells (iE (bf x) (bX x)),.cells [.int .i64 f]]) J:=hG.pre;simp at h2;have g1:∀vs,(J.set b (.cells vs))[H.length]?=some (.cells (iE (bf x) (bX x))):=λvs=>by
     rw[ah7 (by omega)];obtain⟨X,hX⟩:=qT;rw[hX];simp
    have g2:∀vs,(J.set b (.cells vs))[H.length+1]?=some (.cells [.int .i64 f]):=λvs=>by
     rw[ah7 (by omega)];obtain⟨X,hX⟩:=qT;rw[hX];simp
    have wW:=Iu (λw=>decide ((eF x (f,w) x.length).length=0)) (qW d) vb 98 [.ptr H.length 0,.ptr (H.length+1) 0] R (J.set b (.cells (strs (qW d)++R))) T b (by simp;omega) (by simpa using hRb) (ahK li)
     (λw _ vs=>by rw[List.set_set];exact Kt w _ _ _ T (g1 vs) (g2 vs))
    rw[<-hwq] at wW;have wW:=ar.cg (a:=.bG b (qW d).length cap) wW;clear Kt;refine ae λK hK=>?_;simp(disch:=omega) ;refine ak (cc) ?_;simp(disch:=omega) ;refine⟨_,wW,?_⟩;rintro r' H' T' ⟨rfl,rfl,rest,rfl⟩;simp(disch:=omega) ;apply hK;apply ay;simp(disch:=omega) ;refine⟨?_,⟨[],(ahH _).symm⟩,gj.NT (rest:=rest) (by omega) ?_ (λv hv=>by obtain⟨w,_,rfl⟩:=ahl.1 hv;simp)⟩
    ·obtain⟨X,hX⟩:=qT.set (i:=b) (by simp;omega) (az.cells (strs (iZ x f p)++rest));exact⟨az.cells (iE (bf x) (bX x))::az.cells [.int .i64 f]::X,by rw[hX];simp⟩
    ·rw[ahK li]
end Go.Proofs.YtoejlmpbebjemaaGreat
