/- Searching among terms (layer 39). segment.Find (layer 39): what it answers; strings.HasPrefix. segment.Words (layer 39).
  Conditions: lengths below 400 or 1000, as each theorem says. -/
import Derived.Test.YtneohapkboaplaaGreatGV
import Derived.Test.YtneohapkboaplaaGreatPZ
set_option linter.all false
set_option maxRecDepth 100000
set_option maxHeartbeats 8000000
open List (getD_eq_getElem?_getD map_take length_drop)
namespace Go.Am
open Go
theorem aq.UB {P:Program}{f:FuncId}{args:List AV}{H:List aA}{T:ar}{R:AV→Prop}(hb:∀r,R r→Below H.length T.length r)
  (h:aq P f args H T (fun r H' T'=>(∃rH,H'=H++rH)∧(∃rT,T'=T++rT)∧R r)):aq P f args H T (fun r H' T'=>H'=H∧T'=T∧R r):=by
 refine⟨h.1,fun L w ca hc mO hr=>(h.2 L w ca hc mO hr).mono ?_⟩;rintro e w' ⟨r',H',T',L',cv,⟨⟨rH,e1⟩,⟨rT,e2⟩,e3⟩,rfl,cT,dI,dP⟩;subst e1;subst e2;refine⟨_,H,T,L',cv,⟨rfl,rfl,e3⟩,rfl,bT.front P cT hc.iG,?_,dP.front (Nat.le_refl _) (Nat.le_refl _)⟩;have:=dI.drop (hb _ e3);simpa using this
end Go.Am
namespace Go.Proofs.YtneohapkboaplaaGreat
open Go Go.Am iF eJ dh
def zU (l:List Tm):Prop:=∀i j,i<j→j<l.length→bM (l.getD i t0).k (l.getD j t0).k=true
theorem KT {l:List Tm}(h:∀i,0<i→i<l.length→bM (l.getD (i-1) t0).k (l.getD i t0).k=true):zU l:=by
 intro i j jt hj
 induction j with
 |zero=>omega
 |succ j ih=>
  have h1:=h (j+1) (by omega) hj;rw[show j+1-1=j by omega] at h1;rcases Nat.lt_or_ge i j with h2|h2
  ·exact gf (ih h2 (by omega)) h1
  ·have:i=j:=by omega
   subst this;exact h1
def Pb (l:List Tm)(k:Ky)(r:AV):Prop:=∃(i:Nat) (b:Bool),r=.df [.int .i64 (i:Nat),.bool b]∧i≤l.length∧
 (b=true→i<l.length∧(l.getD i t0).k=k)∧(b=false→zU l→∀j,j<l.length→(l.getD j t0).k≠k)∧(zU l→(∀j,j<i→bM (l.getD j t0).k k=true)∧∀j,i≤j→j<l.length→bM (l.getD j t0).k k=false)
def UO (l:List Tm)(k:Ky)(H:List aA)(T:ar):AV→List aA→ar→Prop:=fun r H' T'=>H'=H∧T'=T∧Pb l k r
theorem tS {a b:Ky}(h:bM a b=true):a≠b:=fun e=>by rw[e,eH] at h;cases h
attribute [-simp] getD_eq_getElem?_getD in
theorem sR (l:List Tm)(k:Ky)(u:AV)(hl:l.length≤1000)(H:List aA)(T:ar)(tg:Tag)(hu:Below H.length T.length u) :
  aq Tryz.prog 80 [.sl l.length (bO l) tg,.agg [.int .i64 k.1,.str k.2,u],.fn 63 [] []] H T (UO l k H T):=by
 refine aq.cD ?_;have hR:∀r,Pb l k r→Below H.length T.length r:=by
  rintro r ⟨i,b,rfl,_⟩;simp
 refine aq.UB hR ?_;refine aj 12 [] Tryz.ntmps80 Tryz.func80 rfl (fun _ _=>Tryz.call80 _ _) (by simp) (fun HO=>?_);apply ae;intro K h;simp(disch:=omega);apply h;clear h K;have eX:bC (H++[.cells [.int .i64 k.1,.str k.2,u]]) T:=HO.snoc (by simp;exact hu.more (by omega) (by omega));apply ae;intro K h;simp(disch:=omega);apply h;clear h K;apply ae;intro K h;simp(disch:=omega);apply h;clear h K;refine af fun K1 aQ=>?_;apply ah;refine aG (X:=Nat×Nat) (fun x=>⟨[(0,.sl l.length (bO l) .none),(2,.fn 63 [] []),(4,.ptr H.length 0),(8,.int .i64 (l.length:Nat)),(9,.int .i64 (x.1:Nat)),(10,.int .i64 (x.2:Nat))],H++[.cells [.int .i64 k.1,.str k.2,u]],T⟩)
  (fun x=>x.1≤x.2∧x.2≤l.length∧(zU l→(∀j,j<x.1→bM (l.getD j t0).k k=true)∧(∀j,x.2≤j→j<l.length→bM (l.getD j t0).k k=false))) (fun x=>x.2-x.1) (0,l.length) ?_ ?_ ?_
 ·exact⟨Nat.zero_le _,Nat.le_refl _,fun _=>⟨fun j hj=>absurd hj (Nat.not_lt_zero _),fun j h1 h2=>absurd h2 (Nat.not_lt.2 h1)⟩⟩
 ·refine ag [] [] ?_ ?_ ?_ ?_ eX ?_
  all_goals simp
 ·rintro⟨lo,hi⟩ ⟨h1,h2,h3⟩;simp only at h1 h2 h3;refine af fun K2 aW=>?_;apply ae;intro K h;simp(disch:=omega);apply h;clear h K;refine aN rfl (fun hk=>?_) (fun hk=>?_)
  ·simp  at hk;have hm:(lo+hi) / 2<l.length:=by omega
   have bA:=gH l ((lo+hi) / 2) hm;apply ai;simp(disch:=omega) ;apply aW;clear aW;apply ah;apply ae;intro K h;simp(disch:=omega);apply h;clear h K;rw[show ((lo:Int)+hi) / 2=(((lo+hi) / 2:Nat):Int) by omega];have jE:lo≤(lo+hi) / 2:=by omega
   have aZ:(lo+hi) / 2<hi:=by omega
   generalize (lo+hi) / 2=m at *;have c:=o6 (l.getD m t0).k k (.sl (l.getD m t0).l.length (bp (l.getD m t0).l) .none) u (H++[.cells [.int .i64 k.1,.str k.2,u]]) T
   by_cases hc:bM (l.getD m t0).k k=true
   ·have nr:=(rf (l.getD m t0).k k).2 hc;generalize pT (l.getD m t0).k k=q at *;have bq:decide (q<0)=true:=decide_eq_true nr;refine aI [] [] [] al (by kernel_rfl) (by kernel_rfl) fun K hK=>?_;simp(disch:=omega)[bA,bU];refine aB (c) rfl ?_;simp(disch:=omega)[bq,nr];apply hK;clear hK K;apply aF rfl;refine au fun K hK=>?_;simp(disch:=omega) ;apply hK;clear hK K;refine⟨(m+1,hi),⟨by show m+1≤hi;omega,h2,fun hv=>⟨fun j hj=>?_,(h3 hv).2⟩⟩,by show hi-(m+1)<hi-lo;omega,?_⟩
    ·rcases Nat.lt_or_ge j m with h5|h5
     ·exact gf (hv _ _ h5 hm) hc
     ·have:j=m:=by omega
      subst this;exact hc
    ·refine ag [] [] ?_ ?_ ?_ ?_ eX ?_
     all_goals simp
   ·have nr:¬pT (l.getD m t0).k k<0:=fun h=>hc ((rf _ _).1 h);generalize pT (l.getD m t0).k k=q at *;have bq:decide (q<0)=false:=decide_eq_false nr;refine aI [] [] [] al (by kernel_rfl) (by kernel_rfl) fun K hK=>?_;simp(disch:=omega)[bA,bU];refine aB (c) rfl ?_;simp(disch:=omega)[bq,nr];apply hK;clear hK K;apply aD rfl;refine au fun K hK=>?_;simp(disch:=omega) ;apply hK;clear hK K;refine⟨(lo,m),⟨jE,by show m≤l.length;omega,fun hv=>⟨(h3 hv).1,fun j hj vW=>?_⟩⟩,by show m-lo<hi-lo;omega,?_⟩
    ·rcases Nat.lt_or_ge m j with h5|h5
     ·cases hs:bM (l.getD j t0).k k with
      |false=>rfl
      |true=>exact absurd (gf (hv _ _ h5 vW) hs) hc
     ·have:j=m:=by omega
      subst this;simpa using hc
    ·refine ag [] [] ?_ ?_ ?_ ?_ eX ?_
     all_goals simp
  ·simp  at hk;have e:hi=lo:=by omega
   subst e;apply aC;simp(disch:=omega) ;apply aQ;clear aQ
   by_cases hn:hi<l.length
   ·have bA:=gH l hi hn;have c:=o6 (l.getD hi t0).k k (.sl (l.getD hi t0).l.length (bp (l.getD hi t0).l) .none) u (H++[.cells [.int .i64 k.1,.str k.2,u]]) T
    by_cases he:(l.getD hi t0).k=k
    ·rw[(xW _ _).2 he] at c;refine aI [] [] [] al (by kernel_rfl) (by kernel_rfl) fun K hK=>?_;simp(disch:=omega)[bA,bU,hn];refine aB (c) rfl ?_;simp(disch:=omega) ;apply hK;clear hK K;apply az;simp(disch:=omega) ;exact⟨hi,true,rfl,by omega,fun _=>⟨hn,he⟩,fun h=>(by cases h),h3⟩
    ·have hz:¬pT (l.getD hi t0).k k=0:=fun h=>he ((xW _ _).1 h);generalize pT (l.getD hi t0).k k=q at *;have bq:(q==0)=false:=by simpa using hz
     refine aI [] [] [] al (by kernel_rfl) (by kernel_rfl) fun K hK=>?_;simp(disch:=omega)[bA,bU,hn];refine aB (c) rfl ?_;simp(disch:=omega)[bq,hz];apply hK;clear hK K;apply az;simp(disch:=omega) ;refine⟨hi,false,rfl,by omega,fun h=>(by cases h),fun _ hv j hj ID=>?_,h3⟩;rcases Nat.lt_trichotomy j hi with h5|h5|h5
     ·exact tS ((h3 hv).1 j h5) ID
     ·subst h5;exact he ID
     ·have h6:=(h3 hv).2 hi (Nat.le_refl _) hn;have h7:=hv _ _ h5 hj;rw[ID,h6] at h7
      cases h7
   ·have bn:decide ((hi:Int)<l.length)=false:=by simp;omega
    refine aI [] [] [] al (by kernel_rfl) (by kernel_rfl) fun K hK=>?_;simp(disch:=omega)[bn,hn];apply hK;clear hK K;apply az;simp(disch:=omega) ;refine⟨hi,false,rfl,by omega,fun h=>(by cases h),fun _ hv j hj ID=>?_,h3⟩;exact tS ((h3 hv).1 j (by omega)) ID
def zX (l:List Tm)(k:Ky):List Ps:=((l.find? fun t=>decide (t.k=k)).map (·.l)).getD []
def pC (s:Sg)(k:Ky):List Ps:=if aP s=true then zX s.aK k else []
theorem DH {l:List Tm}{k:Ky}(h:∀j,j<l.length→(l.getD j t0).k≠k):zX l k=[]:=by
 unfold zX;rw[List.find?_eq_none.2]
 ·rfl
 ·intro t ht;obtain⟨j,hj,rfl⟩:=bS t0 ht;simpa using h j hj
theorem KS {l:List Tm}(h:zU l){i j:Nat}(hi:i<l.length)(hj:j<l.length)(he:(l.getD i t0).k=(l.getD j t0).k):i=j:=by
 rcases Nat.lt_trichotomy i j with h1|h1|h1
 ·exact absurd he (tS (h i j h1 hj))
 ·exact h1
 ·exact absurd he.symm (tS (h j i h1 hi))
theorem KL {l:List Tm}{k:Ky}{i:Nat}(h:zU l)(hi:i<l.length)(hk:(l.getD i t0).k=k):zX l k=(l.getD i t0).l:=by
 unfold zX
 cases hf:l.find? fun t=>decide (t.k=k) with
 |none=>exact absurd hk (by simpa using List.find?_eq_none.1 hf _ (aR l i t0 hi))
 |some t=>
  have h1:=List.find?_some hf;obtain⟨j,hj,rfl⟩:=bS t0 (List.mem_of_find?_eq_some hf);have h2:(l.getD j t0).k=k:=by simpa using h1
  have:i=j:=KS h hi hj (hk.trans h2.symm);subst this;rfl
theorem qa {s:Sg}(h:aP s=true):zU s.aK:=by
 obtain⟨_,⟨h1,_⟩,_⟩:=fi h;refine KT fun i h0 hi=>?_;have:=(h1 i hi).1;unfold kP at this;simp only[Bool.and_eq_true,Bool.or_eq_true,decide_eq_true_eq] at this;rcases this.2 with h2|h2
 ·omega
 ·exact h2
theorem BG {s:Sg}(h:aP s=true){i:Nat}(hi:i<s.aK.length):bX (s.aK.getD i t0).l=true:=by
 obtain⟨_,⟨h1,_⟩,_⟩:=fi h;have:=(h1 i hi).2;unfold vK at this;simp only[Bool.and_eq_true] at this;exact this.1.2
theorem Hj (d:Int):posOf [] d=[]:=rfl
theorem GA {l:List Ps}(h:bX l=true):jx l []=l:=by
 have h0:VL ([]:PL):=by unfold VL;rfl
 refine Z3 (Z4 h h0) h fun d z=>?_;rw[Qz h h0,Hj];simp
attribute [-simp] getD_eq_getElem?_getD in
theorem Lm (s:Sg)(hs:mh s)(f:Int)(w:Bs)(H:List aA)(T:ar):aq Tryz.prog 20 [ec s,.int .i64 f,.str w] H T (Is (.sl (pC s (f,w)).length (bp (pC s (f,w))) .none) H T):=by
 refine aq.cH ?_ (by simp);have hu:=hs.w;have cv:=fun H=>iV s hs H T;have cb:=sR s.aK (f,w) (.sl 0 [] .full) hs.t (H++[.cells (bH s)]) T .none (by simp);have wg:=fun h=>qa (s:=s) h;have Cz:=fun h i=>BG (s:=s) h (i:=i);refine aj 12 [] Tryz.ntmps20 Tryz.func20 rfl (fun _ _=>Tryz.call20 _ _) (by simp) (fun HO=>?_);apply ae;intro K h;simp(disch:=omega);apply h;clear h K;refine ae fun K hK=>?_;simp(disch:=omega) ;refine⟨_,cb,?_⟩;rintro r H' T' ⟨rfl,rfl,i,b,rfl,hi,h1,h2,h3⟩;simp(disch:=omega) ;apply hK;clear hK K;refine af fun K1 aQ=>?_
 cases b with
 |false=>
  have hf:pC s (f,w)=[]:=by
   unfold pC
   split
   ·rename_i hv;exact DH (h2 rfl (wg hv))
   ·rfl
  apply ae;intro K h;simp(disch:=omega);apply h;clear h K;apply aF rfl;apply ae;intro K h;simp(disch:=omega);apply h;clear h K;apply az;simp(disch:=omega) ;simp[hf];rfl
 |true=>
  obtain⟨cC,Py⟩:=h1 rfl
  cases hv:aP s with
  |false=>
   rw[hv] at cv;have hf:pC s (f,w)=[]:=by unfold pC;rw[hv];rfl
   refine ae fun K hK=>?_;simp(disch:=omega) ;refine ak (cv _) ?_;simp(disch:=omega) ;apply hK;clear hK K;apply aF rfl;apply ae;intro K h;simp(disch:=omega);apply h;clear h K;apply az;simp(disch:=omega) ;simp[hf];rfl
  |true=>
   rw[hv] at cv;have hl:=Cz hv i cC;have hf:pC s (f,w)=(s.aK.getD i t0).l:=by unfold pC;rw[if_pos hv,KL (wg hv) cC Py]
   have fP:=(qI s.aK i cC).2.2;obtain⟨_,q2,q3⟩:=hu _ (aR s.aK i t0 cC);have cu:=fun H=>Kl (s.aK.getD i t0).l [] q2 (by simp) q3 (by simp) H T' .none .full;rw[GA hl] at cu;refine ae fun K hK=>?_;simp(disch:=omega) ;refine ak (cv _) ?_;simp(disch:=omega) ;apply hK;clear hK K;apply aD rfl;apply ai;simp(disch:=omega) ;apply aQ;clear aQ;refine ae fun K hK=>?_;simp(disch:=omega)[fP,bU,cC];refine ak (cu _) ?_;simp(disch:=omega) ;apply hK;clear hK K;apply az;simp(disch:=omega) ;exact⟨by rw[hf],by rw[hf]⟩
def lP (p w:Bs):Bool:=decide (p.length≤w.length)&&(w.take p.length==p)
attribute [-simp] getD_eq_getElem?_getD in
theorem NY (w p:Bs)(hw:w.length≤maxLen)(hp:p.length≤maxLen)(H:List aA)(T:ar):aq Tryz.prog 81 [.str w,.str p] H T (Is (.bool (lP p w)) H T):=by
 have hY:maxLen≤9223372036854775807:=by decide
 have c:aq Tryz.prog 154 [.str w,.str p] H T (Is (.bool (lP p w)) H T):=by
  generalize hq:lP p w=q;unfold lP at hq;refine aj 5 [] Tryz.ntmps154 Tryz.func154 rfl (fun _ _=>Tryz.call154 _ _) (by simp) (fun HO=>?_);apply ae;intro K h;simp(disch:=omega);apply h;clear h K
  by_cases h:p.length≤w.length
  ·have b:decide ((p.length:Int)≤w.length)=true:=decide_eq_true (by omega);rw[decide_eq_true h,Bool.true_and] at hq;refine ae fun K hK=>?_;simp(disch:=omega)[b,h];apply hK;clear hK K;apply az;simp(disch:=omega) ;rw[←hq];exact⟨rfl,rfl,rfl⟩
  ·have b:decide ((p.length:Int)≤w.length)=false:=decide_eq_false (by omega);rw[decide_eq_false h,Bool.false_and] at hq;refine ae fun K hK=>?_;simp(disch:=omega)[b,h];apply hK;clear hK K;apply az;simp(disch:=omega) ;rw[←hq];exact⟨rfl,rfl,rfl⟩
 generalize lP p w=q at *;refine aj 5 [] Tryz.ntmps81 Tryz.func81 rfl (fun _ _=>Tryz.call81 _ _) (by simp) (fun HO=>?_);apply ae;intro K h;simp(disch:=omega);apply h;clear h K;refine ae fun K hK=>?_;simp(disch:=omega) ;refine ak (c) ?_;simp(disch:=omega) ;apply hK;clear hK K;apply az;simp(disch:=omega) ;exact⟨rfl,rfl,rfl⟩
end Go.Proofs.YtneohapkboaplaaGreat
namespace iF
theorem A6 (w:ud):Go.Proofs.YtneohapkboaplaaGreat.lP [] w=true:=by simp[Go.Proofs.YtneohapkboaplaaGreat.lP]
theorem xI (x y:UInt8)(p w:ud):Go.Proofs.YtneohapkboaplaaGreat.lP (x::p) (y::w)=(x==y&&Go.Proofs.YtneohapkboaplaaGreat.lP p w):=by
 unfold Go.Proofs.YtneohapkboaplaaGreat.lP;rw[Bool.eq_iff_iff];simp only[List.length_cons,List.take_succ_cons,Bool.and_eq_true,decide_eq_true_eq,beq_iff_eq,List.cons.injEq,Nat.add_le_add_iff_right]
 constructor
 ·rintro⟨h1,h2,h3⟩;exact⟨h2.symm,h1,h3⟩
 ·rintro⟨h1,h2,h3⟩;exact⟨h2,h1.symm,h3⟩
theorem AD (x y:UInt8)(p w:ud):slt (x::p) (y::w)=(decide (x<y)||(x==y&&slt p w)):=rfl
theorem Ns (p:ud):slt p []=false:=by cases p<;>rfl
theorem Kv (x:UInt8)(p:ud):slt [] (x::p)=true:=rfl
theorem A5:∀(p w:ud),slt w p=true→Go.Proofs.YtneohapkboaplaaGreat.lP p w=false
 |[],w,h=>by rw[Ns] at h;cases h
 |x::p,[],h=>by simp[Go.Proofs.YtneohapkboaplaaGreat.lP]
 |x::p,y::w,h=>by
  rw[AD] at h;rw[xI];simp only[Bool.or_eq_true,decide_eq_true_eq,Bool.and_eq_true,beq_iff_eq] at h;rcases h with h|⟨_,h⟩
  ·have:(x==y)=false:=by
    rw[beq_eq_false_iff_ne];rintro rfl;exact absurd h (UInt8.lt_irrefl _)
   rw[this];rfl
  ·rw[A5 p w h,Bool.and_false]
theorem rq:∀(p w v:ud),slt w p=false→slt w v=true→Go.Proofs.YtneohapkboaplaaGreat.lP p v=true→Go.Proofs.YtneohapkboaplaaGreat.lP p w=true
 |[],w,v,_,_,_=>A6 w
 |x::p,[],v,h,_,_=>by rw[Kv] at h;cases h
 |x::p,y::w,[],_,_,h=>by simp[Go.Proofs.YtneohapkboaplaaGreat.lP] at h
 |x::p,y::w,z::v,h1,h2,h3=>by
  rw[AD] at h1 h2;rw[xI] at h3 ⊢;simp only[Bool.or_eq_false_iff,decide_eq_false_iff_not,Bool.and_eq_false_iff,beq_eq_false_iff_ne,Bool.or_eq_true,decide_eq_true_eq,Bool.and_eq_true,beq_iff_eq] at h1 h2 h3 ⊢;obtain⟨rfl,h3⟩:=h3;rcases h2 with h2|⟨rfl,h2⟩
  ·exact absurd h2 h1.1
  ·refine⟨rfl,rq p w v ?_ h2 h3⟩;rcases h1.2 with h|h
   ·exact absurd rfl h
   ·simpa using h
end iF
namespace Go.Proofs.YtneohapkboaplaaGreat
open Go Go.Am iF eJ dh
def ij (f:Int)(p:Bs)(t:Tm):Bool:=decide (t.f=f)&&lP p t.w
def yx (l:List Tm)(f:Int)(p:Bs):List Bs:=(l.filter (ij f p)).map (·.w)
def lC (s:Sg)(f:Int)(p:Bs):List Bs:=if aP s=true then yx s.aK f p else []
theorem B1 {f:Int}{p:Bs}{t:Tm}(h:bM t.k (f,p)=true):ij f p t=false:=by
 unfold ij;unfold bM at h;simp only[Bool.or_eq_true,decide_eq_true_eq,Bool.and_eq_true] at h;rcases h with h|⟨h1,h2⟩
 ·rw[decide_eq_false (by omega)];rfl
 ·rw[A5 _ _ h2,Bool.and_false]
theorem wy {f:Int}{p:Bs}{t u:Tm}(h1:bM t.k (f,p)=false)(h2:bM t.k u.k=true)(h3:ij f p u=true):ij f p t=true:=by
 unfold ij at h3 ⊢;unfold bM at h1 h2;simp only[Bool.or_eq_true,decide_eq_true_eq,Bool.and_eq_true,Bool.or_eq_false_iff,decide_eq_false_iff_not,Bool.and_eq_false_iff] at h1 h2 h3 ⊢;obtain⟨e,h3⟩:=h3;rcases h2 with h2|⟨h2,h4⟩
 ·omega
 ·refine⟨by omega,rq p t.w u.w ?_ h4 h3⟩;rcases h1.2 with h|h
  ·omega
  ·simpa using h
theorem B9 {l:List Tm}{M:Tm→Bool}{i j:Nat}(jt:i+j≤l.length)(h1:∀m,m<i→M (l.getD m t0)=false)(h2:∀m,m<j→M (l.getD (i+m) t0)=true)(h3:∀m,i+j≤m→m<l.length→M (l.getD m t0)=false) :
  l.filter M=(l.drop i).take j:=by
 have e:l=l.take i++((l.drop i).take j++l.drop (i+j)):=by
  rw[←List.drop_drop,List.take_append_drop,List.take_append_drop]
 conv=>lhs;rw[e]
 rw[List.filter_append,List.filter_append];have a1:(l.take i).filter M=[]:=by
  rw[List.filter_eq_nil_iff];intro x hx;obtain⟨k,hk,rfl⟩:=bS t0 hx;rw[List.length_take] at hk;have:(l.take i).getD k t0=l.getD k t0:=by simp[getD_eq_getElem?_getD,List.getElem?_take,show k<i by omega]
  rw[this,h1 k (by omega)];simp
 have a2:(l.drop (i+j)).filter M=[]:=by
  rw[List.filter_eq_nil_iff];intro x hx;obtain⟨k,hk,rfl⟩:=bS t0 hx;rw[length_drop] at hk;have:(l.drop (i+j)).getD k t0=l.getD (i+j+k) t0:=by simp[getD_eq_getElem?_getD,List.getElem?_drop]
  rw[this,h3 _ (by omega) (by omega)];simp
 have a3:((l.drop i).take j).filter M=(l.drop i).take j:=by
  rw[List.filter_eq_self];intro x hx;obtain⟨k,hk,rfl⟩:=bS t0 hx;rw[List.length_take,length_drop] at hk;have:((l.drop i).take j).getD k t0=l.getD (i+k) t0:=by simp[getD_eq_getElem?_getD,List.getElem?_take,List.getElem?_drop,show k<j by omega]
  rw[this,h2 _ (by omega)]
 rw[a1,a2,a3];simp
theorem Da {l:List Tm}{f:Int}{p:Bs}{i j:Nat}(ho:zU l)(jt:i+j≤l.length)(h1:∀m,m<i→bM (l.getD m t0).k (f,p)=true)(h2:∀m,i≤m→m<l.length→bM (l.getD m t0).k (f,p)=false)
  (h3:∀m,m<j→ij f p (l.getD (i+m) t0)=true) (h4:i+j<l.length→ij f p (l.getD (i+j) t0)=false):yx l f p=((l.drop i).take j).map (·.w):=by
 unfold yx;rw[B9 jt (fun m hm=>B1 (h1 m hm)) h3];intro m FI IB;rcases Nat.lt_or_ge (i+j) m with h|h
 ·cases hc:ij f p (l.getD m t0) with
  |false=>rfl
  |true=>
   have:=wy (h2 (i+j) (by omega) (by omega)) (ho (i+j) m h IB) hc;rw[h4 (by omega)] at this
   cases this
 ·have:m=i+j:=by omega
  subst this;exact h4 IB
theorem Gp (s : Sg) (hs : mh s) (f : Int) (p : Bs) (hp : p.length ≤ maxLen) (H : List aA) (T : ar) : aq Tryz.prog 23 [ec s, .int .i64 f, .str p] H T (Is (.sl (lC s f p).length (strs (lC s f p)) .none) H T) := by
  refine aq.cH ?_ (by simp);have cv := fun H => iV s hs H T;have cb := sR s.aK (f, p) (.sl 0 [] .full) hs.t (H ++ [.cells (bH s)]) T .none (by simp);have wg := fun h => qa (s := s) h;have hw := hs.w;have pg := hs.t;refine aj 31 [] Tryz.ntmps23 Tryz.func23 rfl (fun _ _ => Tryz.call23 _ _) (by simp) (fun HO => ?_);refine ae fun K hK => ?_; simp (maxSteps := 1000000) (disch := omega) [-getD_eq_getElem?_getD]; refine hK _ ?_; clear hK K;refine ae fun K hK => ?_; simp (maxSteps := 1000000) (disch := omega) [-getD_eq_getElem?_getD]; refine hK _ ?_; clear hK K;refine af fun K1 aQ => ?_;have eX : bC (H ++ [.cells (bH s)]) T := HO.snoc (by simp)
  cases hv : aP s with
  | false =>
    rw [hv] at cv
    have hf : lC s f p = [] := by unfold lC; rw [hv]; rfl
    refine ae fun K hK => ?_; simp (maxSteps := 1000000) (disch := omega) [-getD_eq_getElem?_getD]
    refine ak (cv _) ?_; simp (maxSteps := 1000000) (disch := omega) [-getD_eq_getElem?_getD]
    refine hK _ ?_; clear hK K
    refine aN rfl (fun h => ?_) (fun h => absurd h (by simp))
    refine ae fun K hK => ?_; simp (maxSteps := 1000000) (disch := omega) [-getD_eq_getElem?_getD]; refine hK _ ?_; clear hK K
    apply az; simp (maxSteps := 1000000) (disch := omega) [-getD_eq_getElem?_getD]
    simp [hf]
  | true =>
  rw [hv] at cv;have hf : lC s f p = yx s.aK f p := by unfold lC; rw [if_pos hv]
  have ho := wg hv;refine ae fun K hK => ?_; simp (maxSteps := 1000000) (disch := omega) [-getD_eq_getElem?_getD];refine ak (cv _) ?_; simp (maxSteps := 1000000) (disch := omega) [-getD_eq_getElem?_getD];refine hK _ ?_; clear hK K;refine aN rfl (fun h => absurd h (by simp)) (fun h => ?_);apply ai; simp (maxSteps := 1000000) (disch := omega) [-getD_eq_getElem?_getD];refine aQ _ ?_; clear aQ;refine ae fun K hK => ?_; simp (maxSteps := 1000000) (disch := omega) [-getD_eq_getElem?_getD];refine ⟨_, cb, ?_⟩;rintro r H' T' ⟨rfl, rfl, i, b, rfl, hi, h1, h2, h3⟩;simp (maxSteps := 1000000) (disch := omega) [-getD_eq_getElem?_getD];refine hK _ ?_; clear hK K;refine af fun K1 aQ => ?_;obtain ⟨h4, h5⟩ := h3 ho;have oH := GB s.aK i;have EB : (s.aK.drop i).length = s.aK.length - i := length_drop;have eN : List.take ((s.aK.length - i) * 3) (bO (s.aK.drop i)) = bO (s.aK.drop i) := List.take_of_length_le (by rw [bU, EB]; omega);have hDg : ∀ m, (s.aK.drop i).getD m t0 = s.aK.getD (i + m) t0 := fun m => by simp [getD_eq_getElem?_getD, List.getElem?_drop]
  refine ae fun K hK => ?_; simp (maxSteps := 1000000) (disch := omega) [-getD_eq_getElem?_getD, oH, bU, hi, eN]; refine hK _ ?_; clear hK K;rw [← EB];have OZ : ∀ j, j ≤ (s.aK.drop i).length → (∀ m, m < j → ij f p (s.aK.getD (i + m) t0) = true) → (j < (s.aK.drop i).length → ij f p (s.aK.getD (i + j) t0) = false) → lC s f p = ((s.aK.drop i).take j).map (·.w) := fun j j1 j2 j3 => by
    rw [hf];exact Da ho (by omega) h4 h5 j2 (fun h => j3 (by omega))
  have Mk : ∀ m, m < (s.aK.drop i).length → (s.aK.getD (i + m) t0).w.length ≤ maxLen := fun m hm => (hw _ (aR _ _ _ (by omega))).1;have acs : (s.aK.drop i).length ≤ 1000 := by omega
  clear hf cv cb wg hw pg h1 h2 h3 h4 h5 oH eN;generalize hD : s.aK.drop i = D at *;generalize lC s f p = res at *;apply ah;refine lF 7 0 1 [] (by omega) (by simp) ?_;refine aG (X := Nat) (fun j => ⟨[(1, .int .i64 f), (2, .str p), (7, .sl j (strs ((D.map (·.w)).take j)) (.own T'.length)), (28, .sl D.length (bO D) .none), (29, .int .i64 (D.length : Nat)), (30, .int .i64 (j : Nat))], H ++ [.cells (bH s)], T' ++ [(j, 1)]⟩)
    (fun j => j ≤ D.length ∧ ∀ m, m < j → ij f p (s.aK.getD (i + m) t0) = true) (fun j => D.length - j) 0 ?_ ?_ ?_
  · exact ⟨Nat.zero_le _, fun j hj => absurd hj (Nat.not_lt_zero _)⟩
  · refine ag [] [] ?_ ?_ ?_ ?_ (eX.fQ (by simp)) ?_
    all_goals simp
  · rintro j ⟨g1, g2⟩;have Tv : ∀ m, m < j + 1 → m < j ∨ m = j := fun m hm => by omega
    refine ae fun K hK => ?_; simp (maxSteps := 1000000) (disch := omega) [-getD_eq_getElem?_getD]; refine hK _ ?_; clear hK K;refine af fun K2 aW => ?_;refine aN rfl (fun hk => ?_) (fun hk => ?_)
    · simp [-getD_eq_getElem?_getD] at hk;have bA := gH D j hk;have pg : (strs ((D.map (·.w)).take j)).length = j := by simp; omega
      have eN : strs ((D.map (·.w)).take j) ++ [.str (D.getD j t0).w] = strs ((D.map (·.w)).take (j + 1)) := by rw [GD, ← map_take, ← map_take, bf D j t0 hk]; simp
      have ua := Mk j hk;rw [← hDg j] at ua;have hm : ij f p (s.aK.getD (i + j) t0) = (decide ((D.getD j t0).f = f) && lP p (D.getD j t0).w) := by rw [← hDg j]; rfl
      generalize D.getD j t0 = t at *;obtain ⟨tf, tw, tl⟩ := t;simp only at bA eN ua hm;have yp : ∀ r, res = r → r = (D.take j).map (·.w) → j = res.length ∧ strs ((D.map (·.w)).take j) = strs res := fun r e1 e2 => by rw [e1, e2, map_take]; exact ⟨by simp; omega, rfl⟩
      have TG : aJ (H.length + 2) (T'.length + 1) (strs ((D.map (·.w)).take j)) := by simp
      generalize strs ((D.map (·.w)).take j) = out at *;apply ai; simp (maxSteps := 1000000) (disch := omega) [-getD_eq_getElem?_getD];refine aW _ ?_; clear aW;refine af fun K3 bz => ?_;apply ah;refine ae fun K hK => ?_; simp (maxSteps := 1000000) (disch := omega) [-getD_eq_getElem?_getD, bA, bU]; refine hK _ ?_; clear hK K;have dy : bC (H ++ [.cells (bH s), .cells (js ⟨tf, tw, tl⟩)]) (T' ++ [(j, 1)]) := by
        have := (bC.snoc (vs := js ⟨tf, tw, tl⟩) eX (by simp)).fQ (T' := T' ++ [(j, 1)]) (by simp);simpa using this
      refine af fun K4 eV => ?_;have c := NY tw p ua hp (H ++ [.cells (bH s), .cells (js ⟨tf, tw, tl⟩)]) (T' ++ [(j, 1)]);have stop : ∀ e, ij f p (s.aK.getD (i + j) t0) = false → bt (H.length + 2) (T'.length + 1) e [(7, .sl j out (.own T'.length))] → K1 ⟨e, H ++ [.cells (bH s), .cells (js ⟨tf, tw, tl⟩)], T' ++ [(j, 1)]⟩ := by
        intro e hmf he;have hr := OZ j g1 g2 (fun _ => hmf);refine aQ _ (aH ⟨[(7, .sl j out (.own T'.length))], H ++ [.cells (bH s), .cells (js ⟨tf, tw, tl⟩)], T' ++ [(j, 1)]⟩ (ag [] [] (by simp) (by simp) (by simp) (by simp) dy (by simpa using he)) ?_);refine ae fun K hK => ?_; simp (maxSteps := 1000000) (disch := omega) [-getD_eq_getElem?_getD]; refine hK _ ?_; clear hK K;apply az; simp (maxSteps := 1000000) (disch := omega) [-getD_eq_getElem?_getD];exact yp _ rfl hr
      by_cases hf : tf = f
      · subst hf;rw [decide_eq_true rfl, Bool.true_and] at hm
        cases Zk : lP p tw with
        | false =>
          rw [Zk] at c hm
          refine ae fun K hK => ?_; simp (maxSteps := 1000000) (disch := omega) [-getD_eq_getElem?_getD]
          refine ak (c) ?_; simp (maxSteps := 1000000) (disch := omega) [-getD_eq_getElem?_getD]
          refine hK _ ?_; clear hK K
          refine aN rfl (fun h => ?_) (fun h => absurd h (by simp))
          apply aC; simp (maxSteps := 1000000) (disch := omega) [-getD_eq_getElem?_getD]
          refine stop _ hm ?_
          simp [TG]
        | true =>
          rw [Zk] at c hm
          refine ae fun K hK => ?_; simp (maxSteps := 1000000) (disch := omega) [-getD_eq_getElem?_getD]
          refine ak (c) ?_; simp (maxSteps := 1000000) (disch := omega) [-getD_eq_getElem?_getD]
          refine hK _ ?_; clear hK K
          refine aN rfl (fun h => absurd h (by simp)) (fun h => ?_)
          apply ai; simp (maxSteps := 1000000) (disch := omega) [-getD_eq_getElem?_getD]
          refine eV _ ?_; clear eV
          refine au fun K hK => ?_; simp (maxSteps := 1000000) (disch := omega) [-getD_eq_getElem?_getD, pg, eN]
          refine hK _ ?_; clear hK K
          refine bz _ ?_; clear bz
          refine au fun K hK => ?_; simp (maxSteps := 1000000) (disch := omega) [-getD_eq_getElem?_getD]
          refine hK _ ?_; clear hK K
          refine ⟨j + 1, ⟨by show j + 1 ≤ _; omega, fun m IB => ?_⟩, by show D.length - (j + 1) < D.length - j; omega, ?_⟩
          · rcases Tv m IB with h | rfl
            · exact g2 m h
            · exact hm
          · refine ag [.cells (js ⟨tf, tw, tl⟩)] [] ?_ ?_ ?_ ?_ (eX.fQ (by simp)) ?_
            all_goals simp
      · have b1 : (tf != f) = true := by simp [hf]
        rw [decide_eq_false hf, Bool.false_and] at hm;refine ae fun K hK => ?_; simp (maxSteps := 1000000) (disch := omega) [-getD_eq_getElem?_getD, b1, hf];refine hK _ ?_; clear hK K;refine aN rfl (fun h => ?_) (fun h => absurd h (by simp));apply aC; simp (maxSteps := 1000000) (disch := omega) [-getD_eq_getElem?_getD];refine stop _ hm ?_;simp [TG]
    · simp [-getD_eq_getElem?_getD] at hk;have hj : j = D.length := by omega
      have hr := OZ j g1 g2 (fun h => by omega);apply aC; simp (maxSteps := 1000000) (disch := omega) [-getD_eq_getElem?_getD];refine aQ _ ?_; clear aQ;refine ae fun K hK => ?_; simp (maxSteps := 1000000) (disch := omega) [-getD_eq_getElem?_getD]; refine hK _ ?_; clear hK K;apply az; simp (maxSteps := 1000000) (disch := omega) [-getD_eq_getElem?_getD];rw [hr, map_take];exact ⟨by simp; omega, rfl⟩
end Go.Proofs.YtneohapkboaplaaGreat
