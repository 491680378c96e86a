/- index.Words (layer 40).
  Conditions: sizes, as the theorems say. -/
import Derived.Test.YtoejlmpbebjemaaGreatXZb
import Derived.Test.YtoejlmpbebjemaaGreatXDf
import Derived.Test.YtoejlmpbebjemaaGreatXWq
import Derived.Test.YtoejlmpbebjemaaGreatXGr
set_option linter.all false
set_option maxRecDepth 100000
set_option maxHeartbeats 8000000
namespace Go.Proofs.YtoejlmpbebjemaaGreat
open Go.Proofs.Tryz(prog)
open Go Go.Am ia cO eN
abbrev F9 (w:Bs):List AV:=[.str w]
def xg:ep F9 1:=λ_=>rfl
def uj (n t:Nat)(w:Bs):aM n t (F9 w):=by simp
def xS {s:Sg}(hs:uX s)(f:Int)(p:Bs):(gS s f p).length<=1000:=by
 unfold gS
 split
 ·unfold tY;rw[agU];exact agJ (ahf _ _) hs.t
 ·simp
attribute [-simp] List.getD_eq_getElem?_getD in
def GH {m:Nat}{x:List Sd}(h:BX m x)(hm:m<=1000)(hl:x.length<=400)(f:Int)(w:Bs)(a b:Nat)(H:List aA)(T:au)(h1:H[a]?=some (.cells (iv (br x) (cj x))))(h2:H[b]?=some (.cells [.int .i64 f])) :
  ar prog 98 [.str w,.ptr a 0,.ptr b 0] H T (Is (.bool (decide ((eC x (f,w) x.length).length=0))) H T):=by
 have cf:=λH T=>th h hm hl f w H T;generalize eC x (f,w) x.length=q at *;have la:=(agC.1 h1).1;have lb:=(agC.1 h2).1;have ea:=aX h1;have eb:=aX h2;have e:((q.length:Int)==0)=decide (q.length=0):=by rw[ajc];simp
 refine ah 5 [] Tryz.ntmps98 Tryz.func98 rfl (λ_ _=>Tryz.call98 _ _) (by simp) (λHO=>?_);apply ae;intro K Z;simp(disch:=omega);apply Z;refine ae λK hK=>?_;simp(disch:=omega)[ea,eb,la,lb];refine ak (cf _ _) ?_;simp(disch:=omega)[e];apply hK;apply az;simp(disch:=omega) ;exact⟨rfl,rfl,rfl⟩
attribute [-simp] List.getD_eq_getElem?_getD in
def BZ (g:FuncId)(cz:List AV)(H:List aA)(T:au)(qL:aM H.length T.length cz) :
  ar prog 160 [.sl 0 [] .none,.fn g [] cz] H T (Is (.int .i64 (-1)) H T):=by
 refine ar.bZ ?_ (by simp);refine ah 9 [] Tryz.ntmps160 Tryz.func160 rfl (λ_ _=>Tryz.call160 _ _) (by simp) (λHO=>?_);apply ae;intro K Z;simp(disch:=omega);apply Z;refine af λK1 aP=>?_;apply ae;intro K Z;simp(disch:=omega);apply Z;apply aj;refine aJ (X:=Nat) (λk=>⟨[(7,.int .i64 0),(8,.int .i64 0)],H,T⟩) (λk=>True) (λk=>0) 0 trivial ?_ ?_
 ·refine ag [] [] ?_ ?_ ?_ ?_ HO ?_
  all_goals simp
 ·intro k _;apply ae;intro K Z;simp(disch:=omega);apply Z;refine af λK2 bp=>?_;refine aU rfl (λhk=>?_) (λhk=>?_)
  ·simp at hk
  ·apply aG;simp(disch:=omega) ;apply aP;clear aP;apply ae;intro K Z;simp(disch:=omega);apply Z;apply az;simp(disch:=omega) 
attribute [-simp] List.getD_eq_getElem?_getD in
def yW (g:FuncId)(cz:List AV)(H:List aA)(T:au)(qL:aM H.length T.length cz) :
  ar prog 96 [.sl 0 [] .none,.fn g [] cz] H T (Is (.sl 0 [] .none) H T):=by
 refine ar.bZ ?_ (by simp);have ci:=BZ g cz H T qL;refine ah 10 [] Tryz.ntmps96 Tryz.func96 rfl (λ_ _=>Tryz.call96 _ _) (by simp) (λHO=>?_);apply ae;intro K Z;simp(disch:=omega);apply Z;refine ae λK hK=>?_;simp(disch:=omega) ;refine ak (ci) ?_;simp(disch:=omega) ;apply hK;refine af λK1 aP=>?_;apply ae;intro K Z;simp(disch:=omega);apply Z;apply aH rfl;apply ae;intro K Z;simp(disch:=omega);apply Z;apply az;simp(disch:=omega) 
def p7 (l:List Bs):(Lib.compact l).length<=l.length:=by
 unfold Lib.compact Lib.compactUpTo;rw[agU];exact agJ (ahf _ _) (by simp)
theorem tu {m:Nat}{x:List Sd}(h:BX m x)(f:Int)(p:Bs):∀i,i<=x.length->(tW x f p i).length<=i*1000
 |0,_=>by simp[tW]
 |i+1,hi=>by
  rw[AD f p hi,agF];have h1:=tu h f p i (by omega);have h2:=xS (h.sz (fY hi)) f p;omega
attribute [-simp] List.getD_eq_getElem?_getD in
theorem zI {m:Nat}{x:List Sd}(h:BX m x)(hm:m<=1000)(hl:x.length<=400)(f:Int)(p:Bs)(hp:p.length<=maxLen)(H:List aA)(T:au) :
  ar prog 42 [yp x,.int .i64 f,.str p] H T (Is (.sl (iT x f p).length (strs (iT x f p)) .none) H T):=by
 refine ar.pf ?_;show ar prog _ _ H T (BQ H T _);have FD:=fw x;refine ah 14 [100022] Tryz.ntmps42 Tryz.func42 rfl (λ_ _=>Tryz.call42 _ _) (by simp) (λHO=>?_);apply ae;intro K Z;simp(disch:=omega);apply Z;have eV:bN (H++[.cells (iv (br x) (cj x)),.cells [.int .i64 f]]) T:=by
  have:=(HO.snoc (vs:=iv (br x) (cj x)) (by simp)).snoc (vs:=[.int .i64 f]) (by simp);simpa using this
 apply ae;intro K Z;simp(disch:=omega);apply Z;refine af λK1 aP=>?_;apply ae;intro K Z;simp(disch:=omega);apply Z;apply aj;refine aJ (X:=Nat×AV×List aA) (λy=>⟨[(2,.str p),(3,.ptr H.length 0),(4,.ptr (H.length+1) 0),(7,y.2.1),(11,.sl (br x).length (fD (br x)) .none),(12,.int .i64 ((br x).length:Nat)),(13,.int .i64 (y.1:Nat))],y.2.2,T⟩)
  (λy=>y.1<=x.length/\GR F9 1 (H++[.cells (iv (br x) (cj x)),.cells [.int .i64 f]]) T (tW x f p y.1) y.2.2 y.2.1) (λy=>x.length-y.1) (0,.sl 0 [] .full,H++[.cells (iv (br x) (cj x)),.cells [.int .i64 f]]) ?_ ?_ ?_
 ·exact⟨agP _,GR.nil eV⟩
 ·refine ag [] [] ?_ ?_ ?_ ?_ eV ?_
  all_goals simp
 ·rintro⟨i,out,J⟩ ⟨g1,hG⟩;simp only at g1 hG ⊢;have hJl:H.length+2<=J.length:=by have:=hG.pre.le;simp at this;omega
  have hb:=hG.below;apply ae;intro K Z;simp(disch:=omega);apply Z;refine af λK2 bp=>?_;refine aU rfl (λhk=>?_) (λhk=>?_)
  ·simp  at hk;have hi:i<x.length:=by omega
   have TG:=fY hi;have bu:=j7 (br x) i hk;rw[fx hi] at bu;have cw:=λH T=>JU (eu (x.getD i e0).1) (h.sz TG) f p hp H T;have sa:=xS (h.sz TG) f p;have lF:=AD f p hi;have hol:(tW x f p i).length<=i*1000:=tu h f p i (by omega);generalize aed:tW x f p (i+1)=nx at *;generalize tW x f p i=d at *;generalize gS (eu (x.getD i e0).1) f p=ws at *;generalize eu (x.getD i e0).1=s at *;have QE:GR F9 1 (H++[.cells (iv (br x) (cj x)),.cells [.int .i64 f]]) T d (J++[.cells (dA s)]) out:=hG.more _ (hG.ok.snoc (by simp));have gf:(J++[.cells (dA s)])[H.length+1]?=some (.cells [.int .i64 f]):=by
    obtain⟨X,hX⟩:=hG.pre;rw[hX];simp
   have ef:=aX gf;have lf:=(agC.1 gf).1;have wA:=QE.below;have agy:H.length+2<=(J++[aA.cells (dA s)]).length:=by simp;omega
   apply aq;simp(disch:=omega) ;apply bp;clear bp;refine af λK3 bG=>?_;apply aj;refine ae λK hK=>?_;simp(disch:=omega)[bu,hk,dD];apply hK;have gs:(J++[aA.cells (dA s)])[J.length]?=some (.cells (dA s)):=by simp
   have es:=aX gs;have ls:=(agC.1 gs).1;have gA:∀w:List Bs,strs w=w.flatMap F9:=λw=>(lr w).symm;generalize QC:J++[aA.cells (dA s)]=J1 at *;generalize J.length=js at *;clear QC hG hb gf gs;have fin:∀e J' pj,GR F9 1 (H++[.cells (iv (br x) (cj x)),.cells [.int .i64 f]]) T nx J' pj->bC J'.length T.length e [(2,.str p),(3,.ptr H.length 0),(4,.ptr (H.length+1) 0),(7,pj),(11,.sl (br x).length (fD (br x)) .none),(12,.int .i64 ((br x).length:Nat)),(13,.int .i64 (i:Nat))]->K3 ⟨e,J',T⟩:=by
    intro e J' pj Jv he;have jJ:=Jv.pre.le;have vF:=Jv.below;refine bG _ (aI ⟨[(2,.str p),(3,.ptr H.length 0),(4,.ptr (H.length+1) 0),(7,pj),(11,.sl (br x).length (fD (br x)) .none),(12,.int .i64 ((br x).length:Nat)),(13,.int .i64 (i:Nat))],J',T⟩ (ag [] [] (by simp) (by simp) (by simp at jJ;show H.length<=J'.length;omega) (by simp) Jv.ok he) ?_);refine aC λK hK=>?_;simp(disch:=omega) ;apply hK;refine⟨(i+1,pj,J'),⟨by show i+1<=_;omega,by simp only[aed];exact Jv⟩,by show x.length-(i+1)<x.length-i;omega,?_⟩;refine ag [] [] ?_ ?_ ?_ ?_ Jv.ok ?_
    all_goals simp at jJ ⊢
    all_goals first|omega|(simp[vF];omega)
   clear bG;rcases QE.o with⟨rfl,rfl⟩|⟨b,cap,rfl,h2,h3,h4⟩
   ·rw[aic] at lF
    cases ws with
    |nil=>
     refine aC λK hK=>?_;simp(disch:=omega)[es,ls,ef,lf];refine ak (cw _ _) ?_;simp(disch:=omega) ;apply hK;refine fin _ _ _ (by rw[lF];exact QE) ?_;simp;omega
    |cons w1 wr=>
     have c1:(wr.length+1)*16<=140737488355328/\wr.length<=9223372036854775806:=by simp at sa;omega
     have hg:=λnc hn=>GR.first uj QE (w1::wr) nc hn;simp only[<-gA,ahd,Nat.mul_one] at hg;refine aC λK hK=>?_;simp(disch:=omega)[es,ls,ef,lf];refine ak (cw _ _) ?_;simp(disch:=omega)[c1];intro nc hn;apply hK;refine fin _ _ _ (by rw[lF];exact hg nc hn) ?_;simp;omega
   ·have iS:=λhle=>GR.put xg uj h4 h2 QE.pre QE.ok ws hle;have u5:=λnc hn=>GR.grow (nc:=nc) xg uj h4 QE.pre QE.ok ws hn;have vF:(d.flatMap F9++List.replicate ((cap-d.length)*1) AV.top).length=cap*1:=by
     rw[agF,bY xg,ajd,<-Nat.add_mul]
     congr 1;omega
    refine aC λK hK=>?_;simp(disch:=omega)[es,ls,ef,lf];refine ak (cw _ _) ?_;simp(disch:=omega) ;refine⟨9,_,strs ws,ws.length,by kernel_rfl,h4,by rw[vF,Gz],by simp,by simp;omega,by omega,by kernel_rfl,by simp,λhle=>?_,λnc aZ ll=>?_⟩
    ·have hg:=iS hle;rw[<-gA ws] at hg;simp only[Gz];generalize hX:J1.set b _=J4 at hg ⊢;have kK:=hg.below;have jy:J1.length=J4.length:=by rw[<-hX,ahY]
     simp(disch:=omega) ;apply hK;refine fin _ _ _ (by rw[lF];exact hg) ?_;simp[kK];omega
    ·have hg:=u5 nc ll;rw[<-gA ws] at hg;simp only[Gz];generalize hX:J1++[aA.cells _]=J4 at hg ⊢;have kK:=hg.below;have jy:J1.length+1=J4.length:=by rw[<-hX];simp
     clear u5 iS es ef h4 hX;generalize J1.length=i2 at *;simp(disch:=omega) ;apply hK;refine fin _ _ _ (by rw[lF];exact hg) ?_;simp at kK;simp[kK];omega
  ·simp  at hk;have Cg:i=x.length:=by omega
   subst Cg;have hwq:iT x f p=(qS (tW x f p x.length)).filter λw=>!decide ((eC x (f,w) x.length).length=0):=rfl;have gC:=tu h f p x.length (agE _);have JC:=λw a b H T h1 h2=>GH h hm hl f w a b H T h1 h2;generalize tW x f p x.length=d at *;have lh:=hG.pre.le;rcases hG.o with⟨rfl,rfl⟩|⟨b,cap,rfl,h2,h3,h4⟩
   ·have cs:=KB J T .full;have cc:=B5 J T .full;have cd:=yW 98 [.ptr H.length 0,.ptr (H.length+1) 0] J T (by simp;omega);apply aG;simp(disch:=omega) ;apply aP;clear aP;refine ae λK hK=>?_;simp(disch:=omega) ;refine ak (cs) ?_;simp(disch:=omega) ;apply hK;refine ae λK hK=>?_;simp(disch:=omega) ;refine ak (cc) ?_;simp(disch:=omega) ;refine ak (cd) ?_;simp(disch:=omega) ;apply hK;apply az;simp(disch:=omega) ;have hn:iT x f p=[]:=by
     rw[hwq,show qS []=[] from ah3.2 λy hy=>by simpa using(ED [] y).1 hy];rfl
    rw[hn];refine⟨?_,⟨[],(ag2 _).symm⟩,fU.same (by simp)⟩;obtain⟨X,hX⟩:=hG.pre;exact⟨aA.cells (iv (br x) (cj x))::aA.cells [.int .i64 f]::X,by rw[hX];simp⟩
   ·have li:=(agC.1 h4).1;rw[lr,Nat.mul_one] at h4;have cs:=OJ d (List.replicate ((cap-d.length)) .top) b cap (by omega) J T h4;apply aG;simp(disch:=omega) ;apply aP;clear aP;refine ae λK hK=>?_;simp(disch:=omega) ;refine ak (cs) ?_;simp(disch:=omega) ;apply hK;have gi2:(J.set b (.cells (strs (pq d)++List.replicate ((cap-d.length)) AV.top)))[b]?=some (.cells (strs (pq d)++List.replicate ((cap-d.length)) AV.top)):=ag4 li;have cc:=Ft (pq d) (List.replicate ((cap-d.length)) .top) b cap (by rw[nJ];omega) (J.set b (.cells (strs (pq d)++List.replicate ((cap-d.length)) AV.top))) T gi2 (p7 _);rw[nJ] at cc;rw[<-show qS d=Lib.compact (pq d) from rfl] at cc;have uW:(qS d).length<=1000000:=by
     have h1:=p7 (pq d);rw[nJ] at h1;exact agJ h1 (by omega)
    have hRb:aM J.length T.length (strs (List.replicate (d.length-(qS d).length) [])++List.replicate ((cap-d.length)) AV.top):=λv hv=>by
     rcases agR.1 hv with h|h
     ·obtain⟨w,_,rfl⟩:=agG.1 h;simp
     ·rw[(List.mem_replicate.1 h).2];exact .top
    rw[List.set_set] at cc;have e3:strs (qS d++List.replicate (d.length-(qS d).length) [])++List.replicate ((cap-d.length)) AV.top=strs (qS d)++(strs (List.replicate (d.length-(qS d).length) [])++List.replicate ((cap-d.length)) AV.top):=by
     rw[<-vf,agV]
    rw[e3] at cc;generalize strs (List.replicate (d.length-(qS d).length) [])++List.replicate ((cap-d.length)) AV.top=R at *;have qP:gG (H++[.cells (iv (br x) (cj x)),.cells [.int .i64 f]]) J:=hG.pre;simp at h2;have g1:∀vs,(J.set b (.cells vs))[H.length]?=some (.cells (iv (br x) (cj x))):=λvs=>by
     rw[ahs (by omega)];obtain⟨X,hX⟩:=qP;rw[hX];simp
    have g2:∀vs,(J.set b (.cells vs))[H.length+1]?=some (.cells [.int .i64 f]):=λvs=>by
     rw[ahs (by omega)];obtain⟨X,hX⟩:=qP;rw[hX];simp
    have wL:=HD (λw=>decide ((eC x (f,w) x.length).length=0)) (qS d) uW 98 [.ptr H.length 0,.ptr (H.length+1) 0] R (J.set b (.cells (strs (qS d)++R))) T b (by simp;omega) (by simpa using hRb) (ag4 li)
     (λw _ vs=>by rw[List.set_set];exact JC w _ _ _ T (g1 vs) (g2 vs))
    rw[<-hwq] at wL;have wL:=ar.cF (a:=.bJ b (qS d).length cap) wL;clear JC;refine ae λK hK=>?_;simp(disch:=omega) ;refine ak (cc) ?_;simp(disch:=omega) ;refine⟨_,wL,?_⟩;rintro r' H' T' ⟨rfl,rfl,rest,rfl⟩;simp(disch:=omega) ;apply hK;apply az;simp(disch:=omega) ;refine⟨?_,⟨[],(ag2 _).symm⟩,fU.M5 (rest:=rest) (by omega) ?_ (λv hv=>by obtain⟨w,_,rfl⟩:=agG.1 hv;simp)⟩
    ·obtain⟨X,hX⟩:=qP.set (i:=b) (by simp;omega) (aA.cells (strs (iT x f p)++rest));exact⟨aA.cells (iv (br x) (cj x))::aA.cells [.int .i64 f]::X,by rw[hX];simp⟩
    ·rw[ag4 li]
end Go.Proofs.YtoejlmpbebjemaaGreat
