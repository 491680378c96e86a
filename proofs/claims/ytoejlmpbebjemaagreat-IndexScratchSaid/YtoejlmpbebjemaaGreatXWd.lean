/- index.Words (layer 40).
  Conditions: sizes, as the theorems say. -/
import Derived.Test.YtoejlmpbebjemaaGreatXZb
import Derived.Test.YtoejlmpbebjemaaGreatXDf
import Derived.Test.YtoejlmpbebjemaaGreatXWq
import Derived.Test.YtoejlmpbebjemaaGreatXGr
set_option linter.all false
set_option maxRecDepth 100000
set_option maxHeartbeats 8000000
namespace Go.Proofs.YtoejlmpbebjemaaGreat
open Go.Proofs.Tryz(prog)
open Go Go.Am ie cN eN
abbrev GK (w:Bs):List AV:=[.str w]
def xK:eE GK 1:=λ_=>rfl
def uK (n t:Nat)(w:Bs):aL n t (GK w):=zS
def yq {s:Sg}(hs:rz s)(f:Int)(p:Bs):(fk s f p).length<=1000:=by
 unfold fk
 split
 ·unfold ir;rw[ahL];exact ahA (ahX _ _) hs.t
 ·simp
attribute [-simp] List.getD_eq_getElem?_getD in
def Hp {m:Nat}{x:List Sd}(h:BX m x)(hm:m<=1000)(hl:x.length<=400)(f:Int)(w:Bs)(a b:Nat)(H:List aA)(T:au)(h1:H[a]?=some (.cells (jr (bF x) (cI x))))(h2:H[b]?=some (.cells [.int .i64 f])) :
  aq prog 98 [.str w,.ptr a 0,.ptr b 0] H T (Is (.bool (decide ((fj x (f,w) x.length).length=0))) H T):=by
 have cf:=λH T=>x8 h hm hl f w H T;generalize fj x (f,w) x.length=q at *;have la:=(aht.1 h1).1;have lb:=(aht.1 h2).1;have ea:=aZ h1;have eb:=aZ h2;have e:((q.length:Int)==0)=decide (q.length=0):=by rw[aj2];simp
 refine ah 5 [] Tryz.ntmps98 Tryz.func98 rfl (λ_ _=>Tryz.call98 _ _) zS (λHO=>?_);refine af ?_;apply ar;simp(disch:=omega)[ea,eb,la,lb];refine ai (cf _ _) ?_;simp(disch:=omega)[e];refine aI ?_;exact⟨rfl,rfl,rfl⟩
attribute [-simp] List.getD_eq_getElem?_getD in
def CE (g:FuncId)(cF:List AV)(H:List aA)(T:au)(ry:aL H.length T.length cF) :
  aq prog 160 [.sl 0 [] .none,.fn g [] cF] H T (Is (.int .i64 (-1)) H T):=by
 refine aq.bK ?_ zS;refine ah 9 [] Tryz.ntmps160 Tryz.func160 rfl (λ_ _=>Tryz.call160 _ _) zS (λHO=>?_);refine af ?_;refine ae λK1 aN=>?_;refine af ?_;apply ag;refine aG (X:=Nat) (λk=>⟨[(7,.int .i64 0),(8,.int .i64 0)],H,T⟩) (λk=>True) (λk=>0) 0 trivial ?_ ?_
 ·exact wk HO
 ·intro k _;refine af ?_;apply hY;refine aV rfl (λhk=>?_) (λhk=>?_)
  ·simp at hk
  ·apply aD;refine zQ ?_;apply aN;clear aN;refine af ?_;exact bu zC
attribute [-simp] List.getD_eq_getElem?_getD in
def zz (g:FuncId)(cF:List AV)(H:List aA)(T:au)(ry:aL H.length T.length cF) :
  aq prog 96 [.sl 0 [] .none,.fn g [] cF] H T (Is (.sl 0 [] .none) H T):=by
 refine aq.bK ?_ zS;have ci:=CE g cF H T ry;refine ah 10 [] Tryz.ntmps96 Tryz.func96 rfl (λ_ _=>Tryz.call96 _ _) zS (λHO=>?_);refine af ?_;apply ar;refine zQ ?_;refine ai (ci) ?_;refine zQ ?_;apply hY;refine af ?_;apply aC rfl;refine af ?_;exact bu zC
def qB (l:List Bs):(Lib.compact l).length<=l.length:=by
 unfold Lib.compact Lib.compactUpTo;rw[ahL];exact ahA (ahX _ _) zS
theorem tV {m:Nat}{x:List Sd}(h:BX m x)(f:Int)(p:Bs):∀i,i<=x.length->(uA x f p i).length<=i*1000
 |0,_=>by simp[uA]
 |i+1,hi=>by
  rw[Be f p hi,ahw];have h1:=tV h f p i zO;have h2:=yq (h.sz (gC hi)) f p;omega
attribute [-simp] List.getD_eq_getElem?_getD in
theorem KG {m:Nat}{x:List Sd}(h:BX m x)(hm:m<=1000)(hl:x.length<=400)(f:Int)(p:Bs)(hp:p.length<=maxLen)(H:List aA)(T:au) :
  aq prog 42 [yW x,.int .i64 f,.str p] H T (Is (.sl (kb x f p).length (strs (kb x f p)) .none) H T):=by
 refine aq.pF ?_;show aq prog _ _ H T (BQ H T _);have yT:=fF x;refine ah 14 [100022] Tryz.ntmps42 Tryz.func42 rfl (λ_ _=>Tryz.call42 _ _) zS (λHO=>?_);refine af ?_;have eu:bM (H++[.cells (jr (bF x) (cI x)),.cells [.int .i64 f]]) T:=by
  have:=(HO.snoc (vs:=jr (bF x) (cI x)) zS).snoc (vs:=[.int .i64 f]) zS;simpa using this
 refine af ?_;refine ae λK1 aN=>?_;refine af ?_;apply ag;refine aG (X:=Nat×AV×List aA) (λy=>⟨[(2,.str p),(3,.ptr H.length 0),(4,.ptr (H.length+1) 0),(7,y.2.1),(11,.sl (bF x).length (fK (bF x)) .none),(12,.int .i64 ((bF x).length:Nat)),(13,.int .i64 (y.1:Nat))],y.2.2,T⟩)
  (λy=>y.1<=x.length/\GR GK 1 (H++[.cells (jr (bF x) (cI x)),.cells [.int .i64 f]]) T (uA x f p y.1) y.2.2 y.2.1) (λy=>x.length-y.1) (0,.sl 0 [] .full,H++[.cells (jr (bF x) (cI x)),.cells [.int .i64 f]]) ?_ ?_ ?_
 ·exact⟨ahE _,GR.nil eu⟩
 ·exact wk eu
 ·rintro⟨i,out,J⟩ ⟨g1,hG⟩;simp only at g1 hG ⊢;have hJl:H.length+2<=J.length:=by have:=hG.pre.le;simp at this;omega
  have hb:=hG.below;refine af ?_;refine ae λK2 ba=>?_;refine aV rfl (λhk=>?_) (λhk=>?_)
  ·simp  at hk;have hi:i<x.length:=zO;have Ut:=gC hi;have bB:=kO (bF x) i hk;rw[fG hi] at bB;have cw:=λH T=>KH (er (x.getD i e0).1) (h.sz Ut) f p hp H T;have qC:=yq (h.sz Ut) f p;have kX:=Be f p hi;have hol:(uA x f p i).length<=i*1000:=tV h f p i zO;generalize ae2:uA x f p (i+1)=nx at *;generalize uA x f p i=d at *;generalize fk (er (x.getD i e0).1) f p=ws at *;generalize er (x.getD i e0).1=s at *;have Rp:GR GK 1 (H++[.cells (jr (bF x) (cI x)),.cells [.int .i64 f]]) T d (J++[.cells (cH s)]) out:=hG.more _ (hG.ok.snoc zS);have gf:(J++[.cells (cH s)])[H.length+1]?=some (.cells [.int .i64 f]):=by
    obtain⟨X,hX⟩:=hG.pre;rw[hX];simp
   have ef:=aZ gf;have lf:=(aht.1 gf).1;have uq:=Rp.below;have ahp:H.length+2<=(J++[aA.cells (cH s)]).length:=by simp;omega
   apply aj;refine zQ ?_;apply ba;clear ba;refine ae λK3 bH=>?_;apply ag;apply ar;simp(disch:=omega)[bB,hk,dL];have gs:(J++[aA.cells (cH s)])[J.length]?=some (.cells (cH s)):=zS;have es:=aZ gs;have ls:=(aht.1 gs).1;have fe:∀w:List Bs,strs w=w.flatMap GK:=λw=>(lZ w).symm;generalize Rn:J++[aA.cells (cH s)]=J1 at *;generalize J.length=js at *;clear Rn hG hb gf gs;have fin:∀e J' pI,GR GK 1 (H++[.cells (jr (bF x) (cI x)),.cells [.int .i64 f]]) T nx J' pI->bA J'.length T.length e [(2,.str p),(3,.ptr H.length 0),(4,.ptr (H.length+1) 0),(7,pI),(11,.sl (bF x).length (fK (bF x)) .none),(12,.int .i64 ((bF x).length:Nat)),(13,.int .i64 (i:Nat))]->K3 ⟨e,J',T⟩:=by
    intro e J' pI Kb he;have jY:=Kb.pre.le;have vw:=Kb.below;refine bH _ (aF ⟨[(2,.str p),(3,.ptr H.length 0),(4,.ptr (H.length+1) 0),(7,pI),(11,.sl (bF x).length (fK (bF x)) .none),(12,.int .i64 ((bF x).length:Nat)),(13,.int .i64 (i:Nat))],J',T⟩ (ak [] [] zS zS (by simp at jY;show H.length<=J'.length;omega) zS Kb.ok he) ?_);refine aJ ?_;refine⟨(i+1,pI,J'),⟨by show i+1<=_;omega,by simp only[ae2];exact Kb⟩,by show x.length-(i+1)<x.length-i;omega,?_⟩;refine ak [] [] ?_ ?_ ?_ ?_ Kb.ok ?_
    all_goals simp at jY ⊢
    all_goals first|omega|(simp[vw];omega)
   clear bH;rcases Rp.o with⟨rfl,rfl⟩|⟨b,cap,rfl,h2,h3,h4⟩
   ·rw[ai3] at kX
    cases ws with
    |nil=>
     refine br λK hK=>?_;simp(disch:=omega)[es,ls,ef,lf];refine ai (cw _ _) ?_;refine zQ ?_;apply hK;refine fin _ _ _ (by rw[kX];exact Rp) ?_;simp;omega
    |cons w1 wr=>
     have c1:(wr.length+1)*16<=140737488355328/\wr.length<=9223372036854775806:=by simp at qC;omega
     have hg:=λnc hn=>GR.first uK Rp (w1::wr) nc hn;simp only[<-fe,ahY,Nat.mul_one] at hg;refine br λK hK=>?_;simp(disch:=omega)[es,ls,ef,lf];refine ai (cw _ _) ?_;simp(disch:=omega)[c1];intro nc hn;apply hK;refine fin _ _ _ (by rw[kX];exact hg nc hn) ?_;simp;omega
   ·have jk:=λhle=>GR.put xK uK h4 h2 Rp.pre Rp.ok ws hle;have vA:=λnc hn=>GR.grow (nc:=nc) xK uK h4 Rp.pre Rp.ok ws hn;have vw:(d.flatMap GK++List.replicate ((cap-d.length)*1) AV.top).length=cap*1:=by
     rw[ahw,cj xK,aj4,<-Nat.add_mul]
     congr 1;omega
    refine br λK hK=>?_;simp(disch:=omega)[es,ls,ef,lf];refine ai (cw _ _) ?_;refine zQ ?_;refine⟨9,_,strs ws,ws.length,zK,h4,by rw[vw,Hh],zS,by simp;omega,zO,zK,zS,λhle=>?_,λnc bp lY=>?_⟩
    ·have hg:=jk hle;rw[<-fe ws] at hg;simp only[Hh];generalize hX:J1.set b _=J4 at hg ⊢;have j8:=hg.below;have jT:J1.length=J4.length:=by rw[<-hX,aiR]
     refine zQ ?_;apply hK;refine fin _ _ _ (by rw[kX];exact hg) ?_;simp[j8];omega
    ·have hg:=vA nc lY;rw[<-fe ws] at hg;simp only[Hh];generalize hX:J1++[aA.cells _]=J4 at hg ⊢;have j8:=hg.below;have jT:J1.length+1=J4.length:=by rw[<-hX];simp
     clear vA jk es ef h4 hX;generalize J1.length=i2 at *;refine zQ ?_;apply hK;refine fin _ _ _ (by rw[kX];exact hg) ?_;simp at j8;simp[j8];omega
  ·simp  at hk;have yV:i=x.length:=zO;subst yV;have hwq:kb x f p=(rG (uA x f p x.length)).filter λw=>!decide ((fj x (f,w) x.length).length=0):=rfl;have gg:=tV h f p x.length (ahv _);have Kk:=λw a b H T h1 h2=>Hp h hm hl f w a b H T h1 h2;generalize uA x f p x.length=d at *;have lh:=hG.pre.le;rcases hG.o with⟨rfl,rfl⟩|⟨b,cap,rfl,h2,h3,h4⟩
   ·have cs:=Ll J T .full;have cc:=CJ J T .full;have cd:=zz 98 [.ptr H.length 0,.ptr (H.length+1) 0] J T (by simp;omega);apply aD;refine zQ ?_;apply aN;clear aN;apply ar;refine zQ ?_;refine ai (cs) ?_;refine zQ ?_;apply ar;refine zQ ?_;refine ai (cc) ?_;refine zQ ?_;refine ai (cd) ?_;refine zQ ?_;refine aI ?_;have hn:kb x f p=[]:=by
     rw[hwq,show rG []=[] from aiQ.2 λy hy=>by simpa using(Fl [] y).1 hy];rfl
    rw[hn];refine⟨?_,⟨[],(ahS _).symm⟩,gp.same zS⟩;obtain⟨X,hX⟩:=hG.pre;exact⟨aA.cells (jr (bF x) (cI x))::aA.cells [.int .i64 f]::X,by rw[hX];simp⟩
   ·have li:=(aht.1 h4).1;rw[lZ,Nat.mul_one] at h4;have cs:=Po d (List.replicate ((cap-d.length)) .top) b cap zO J T h4;apply aD;refine zQ ?_;apply aN;clear aN;apply ar;refine zQ ?_;refine ai (cs) ?_;refine zQ ?_;have gi2:(J.set b (.cells (strs (pS d)++List.replicate ((cap-d.length)) AV.top)))[b]?=some (.cells (strs (pS d)++List.replicate ((cap-d.length)) AV.top)):=ahZ li;have cc:=F8 (pS d) (List.replicate ((cap-d.length)) .top) b cap (by rw[od];omega) (J.set b (.cells (strs (pS d)++List.replicate ((cap-d.length)) AV.top))) T gi2 (qB _);rw[od] at cc;rw[<-show rG d=Lib.compact (pS d) from rfl] at cc;have ur:(rG d).length<=1000000:=by
     have h1:=qB (pS d);rw[od] at h1;exact ahA h1 zO
    have hRb:aL J.length T.length (strs (List.replicate (d.length-(rG d).length) [])++List.replicate ((cap-d.length)) AV.top):=λv hv=>by
     rcases ahI.1 hv with h|h
     ·obtain⟨w,_,rfl⟩:=ahz.1 h;simp
     ·rw[(List.mem_replicate.1 h).2];exact .top
    rw[List.set_set] at cc;have e3:strs (rG d++List.replicate (d.length-(rG d).length) [])++List.replicate ((cap-d.length)) AV.top=strs (rG d)++(strs (List.replicate (d.length-(rG d).length) [])++List.replicate ((cap-d.length)) AV.top):=by
     rw[<-vH,ahM]
    rw[e3] at cc;generalize strs (List.replicate (d.length-(rG d).length) [])++List.replicate ((cap-d.length)) AV.top=R at *;have rC:gW (H++[.cells (jr (bF x) (cI x)),.cells [.int .i64 f]]) J:=hG.pre;simp at h2;have g1:∀vs,(J.set b (.cells vs))[H.length]?=some (.cells (jr (bF x) (cI x))):=λvs=>by
     rw[ail zO];obtain⟨X,hX⟩:=rC;rw[hX];simp
    have g2:∀vs,(J.set b (.cells vs))[H.length+1]?=some (.cells [.int .i64 f]):=λvs=>by
     rw[ail zO];obtain⟨X,hX⟩:=rC;rw[hX];simp
    have xh:=Ij (λw=>decide ((fj x (f,w) x.length).length=0)) (rG d) ur 98 [.ptr H.length 0,.ptr (H.length+1) 0] R (J.set b (.cells (strs (rG d)++R))) T b (by simp;omega) (zU hRb) (ahZ li)
     (λw _ vs=>by rw[List.set_set];exact Kk w _ _ _ T (g1 vs) (g2 vs))
    rw[<-hwq] at xh;have xh:=aq.bR (a:=.bQ b (rG d).length cap) xh;clear Kk;apply ar;refine zQ ?_;refine ai (cc) ?_;refine zQ ?_;refine⟨_,xh,?_⟩;rintro r' H' T' ⟨rfl,rfl,rest,rfl⟩;refine zQ ?_;refine aI ?_;refine⟨?_,⟨[],(ahS _).symm⟩,gp.NO (rest:=rest) zO ?_ (λv hv=>by obtain⟨w,_,rfl⟩:=ahz.1 hv;simp)⟩
    ·obtain⟨X,hX⟩:=rC.set (i:=b) (by simp;omega) (aA.cells (strs (kb x f p)++rest));exact⟨aA.cells (jr (bF x) (cI x))::aA.cells [.int .i64 f]::X,by rw[hX];simp⟩
    ·rw[ahZ li]
end Go.Proofs.YtoejlmpbebjemaaGreat
