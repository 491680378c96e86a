/- Searching among terms (layer 39). segment.Find (layer 39): what it answers; strings.HasPrefix. segment.Words (layer 39).
  Conditions: lengths below 1000 or 1000, as each theorem says. -/
import Derived.Test.YtneohapkboaplaaGreatGV
import Derived.Test.YtneohapkboaplaaGreatPZ
set_option linter.all false
set_option maxRecDepth 100000
set_option maxHeartbeats 8000000
open List (getD_eq_getElem?_getD map_take length_drop)
namespace Go.Am
open Go
theorem al.Ua {P:Program}{f:FuncId}{args:List AV}{H:List aG}{T:ay}{R:AV→Prop}(hb:∀r,R r→Below H.length T.length r)
  (h:al P f args H T (fun r H' T'=>(∃rH,H'=H++rH)∧(∃rT,T'=T++rT)∧R r)):al P f args H T (fun r H' T'=>H'=H∧T'=T∧R r):=by
 refine⟨h.1,fun L w ca hc oM hr=>(h.2 L w ca hc oM hr).mono ?_⟩;rintro e w' ⟨r',H',T',L',cv,⟨⟨rH,e1⟩,⟨rT,e2⟩,e3⟩,rfl,cQ,dF,dU⟩;subst e1;subst e2;refine⟨_,H,T,L',cv,⟨rfl,rfl,e3⟩,rfl,bN.front P cQ hc.fC,?_,dU.front (Nat.le_refl _) (Nat.le_refl _)⟩;have:=dF.drop (hb _ e3);simpa using this
end Go.Am
namespace Go.Proofs.YtneohapkboaplaaGreat
open Go Go.Am gH eB dc
def yU (l:List Tm):Prop:=∀i j,i<j→j<l.length→bU (l.getD i t0).k (l.getD j t0).k=true
theorem J8 {l:List Tm}(h:∀i,0<i→i<l.length→bU (l.getD (i-1) t0).k (l.getD i t0).k=true):yU l:=by
 intro i j lY hj
 induction j with
 |zero=>omega
 |succ j ih=>
  have h1:=h (j+1) (by omega) hj;rw[show j+1-1=j by omega] at h1;rcases Nat.lt_or_ge i j with h2|h2
  ·exact fJ (ih h2 (by omega)) h1
  ·have:i=j:=by omega
   subst this;exact h1
def ON (l:List Tm)(k:Ky)(r:AV):Prop:=∃(i:Nat) (b:Bool),r=.cJ [.int .i64 (i:Nat),.bool b]∧i≤l.length∧
 (b=true→i<l.length∧(l.getD i t0).k=k)∧(b=false→yU l→∀j,j<l.length→(l.getD j t0).k≠k)∧(yU l→(∀j,j<i→bU (l.getD j t0).k k=true)∧∀j,i≤j→j<l.length→bU (l.getD j t0).k k=false)
def Up (l:List Tm)(k:Ky)(H:List aG)(T:ay):AV→List aG→ay→Prop:=fun r H' T'=>H'=H∧T'=T∧ON l k r
theorem tK {a b:Ky}(h:bU a b=true):a≠b:=fun e=>by rw[e,gM] at h;cases h
attribute [-simp] getD_eq_getElem?_getD in
theorem sI (l:List Tm)(k:Ky)(u:AV)(hl:l.length≤1000)(H:List aG)(T:ay)(tg:Tag)(hu:Below H.length T.length u) :
  al Tryz.prog 80 [.sl l.length (bX l) tg,.agg [.int .i64 k.1,.str k.2,u],.fn 63 [] []] H T (Up l k H T):=by
 refine al.cg ?_;have hR:∀r,ON l k r→Below H.length T.length r:=by
  rintro r ⟨i,b,rfl,_⟩;simp
 refine al.Ua hR ?_;refine aj 12 [] Tryz.ntmps80 Tryz.func80 rfl (fun _ _=>Tryz.call80 _ _) (by simp) (fun HO=>?_);apply ae;intro K h;simp(disch:=omega);apply h;clear h K;have kx:bM (H++[.cells [.int .i64 k.1,.str k.2,u]]) T:=HO.snoc (by simp;exact hu.more (by omega) (by omega));apply ae;intro K h;simp(disch:=omega);apply h;clear h K;apply ae;intro K h;simp(disch:=omega);apply h;clear h K;refine af fun K1 aO=>?_;apply ai;refine aK (X:=Nat×Nat) (fun x=>⟨[(0,.sl l.length (bX l) .none),(2,.fn 63 [] []),(4,.ptr H.length 0),(8,.int .i64 (l.length:Nat)),(9,.int .i64 (x.1:Nat)),(10,.int .i64 (x.2:Nat))],H++[.cells [.int .i64 k.1,.str k.2,u]],T⟩)
  (fun x=>x.1≤x.2∧x.2≤l.length∧(yU l→(∀j,j<x.1→bU (l.getD j t0).k k=true)∧(∀j,x.2≤j→j<l.length→bU (l.getD j t0).k k=false))) (fun x=>x.2-x.1) (0,l.length) ?_ ?_ ?_
 ·exact⟨Nat.zero_le _,Nat.le_refl _,fun _=>⟨fun j hj=>absurd hj (Nat.not_lt_zero _),fun j h1 h2=>absurd h2 (Nat.not_lt.2 h1)⟩⟩
 ·refine ag [] [] ?_ ?_ ?_ ?_ kx ?_
  all_goals simp
 ·rintro⟨lo,hi⟩ ⟨h1,h2,h3⟩;simp only at h1 h2 h3;refine af fun K2 aY=>?_;apply ae;intro K h;simp(disch:=omega);apply h;clear h K;refine aP rfl (fun hk=>?_) (fun hk=>?_)
  ·simp  at hk;have hm:(lo+hi) / 2<l.length:=by omega
   have bY:=gk l ((lo+hi) / 2) hm;apply ak;simp(disch:=omega) ;apply aY;clear aY;apply ai;apply ae;intro K h;simp(disch:=omega);apply h;clear h K;rw[show ((lo:Int)+hi) / 2=(((lo+hi) / 2:Nat):Int) by omega];have ku:lo≤(lo+hi) / 2:=by omega
   have bh:(lo+hi) / 2<hi:=by omega
   generalize (lo+hi) / 2=m at *;have c:=oG (l.getD m t0).k k (.sl (l.getD m t0).l.length (bp (l.getD m t0).l) .none) u (H++[.cells [.int .i64 k.1,.str k.2,u]]) T
   by_cases hc:bU (l.getD m t0).k k=true
   ·have mR:=(qD (l.getD m t0).k k).2 hc;generalize ph (l.getD m t0).k k=q at *;have bq:decide (q<0)=true:=decide_eq_true mR;refine aM [] [] [] au (by kernel_rfl) (by kernel_rfl) fun K hK=>?_;simp(disch:=omega)[bY,bH];refine aB (c) rfl ?_;simp(disch:=omega)[bq,mR];apply hK;clear hK K;apply aH rfl;refine ar fun K hK=>?_;simp(disch:=omega) ;apply hK;clear hK K;refine⟨(m+1,hi),⟨by show m+1≤hi;omega,h2,fun hv=>⟨fun j hj=>?_,(h3 hv).2⟩⟩,by show hi-(m+1)<hi-lo;omega,?_⟩
    ·rcases Nat.lt_or_ge j m with h5|h5
     ·exact fJ (hv _ _ h5 hm) hc
     ·have:j=m:=by omega
      subst this;exact hc
    ·refine ag [] [] ?_ ?_ ?_ ?_ kx ?_
     all_goals simp
   ·have mR:¬ph (l.getD m t0).k k<0:=fun h=>hc ((qD _ _).1 h);generalize ph (l.getD m t0).k k=q at *;have bq:decide (q<0)=false:=decide_eq_false mR;refine aM [] [] [] au (by kernel_rfl) (by kernel_rfl) fun K hK=>?_;simp(disch:=omega)[bY,bH];refine aB (c) rfl ?_;simp(disch:=omega)[bq,mR];apply hK;clear hK K;apply aC rfl;refine ar fun K hK=>?_;simp(disch:=omega) ;apply hK;clear hK K;refine⟨(lo,m),⟨ku,by show m≤l.length;omega,fun hv=>⟨(h3 hv).1,fun j hj vx=>?_⟩⟩,by show m-lo<hi-lo;omega,?_⟩
    ·rcases Nat.lt_or_ge m j with h5|h5
     ·cases hs:bU (l.getD j t0).k k with
      |false=>rfl
      |true=>exact absurd (fJ (hv _ _ h5 vx) hs) hc
     ·have:j=m:=by omega
      subst this;simpa using hc
    ·refine ag [] [] ?_ ?_ ?_ ?_ kx ?_
     all_goals simp
  ·simp  at hk;have e:hi=lo:=by omega
   subst e;apply aD;simp(disch:=omega) ;apply aO;clear aO
   by_cases hn:hi<l.length
   ·have bY:=gk l hi hn;have c:=oG (l.getD hi t0).k k (.sl (l.getD hi t0).l.length (bp (l.getD hi t0).l) .none) u (H++[.cells [.int .i64 k.1,.str k.2,u]]) T
    by_cases he:(l.getD hi t0).k=k
    ·rw[(xd _ _).2 he] at c;refine aM [] [] [] au (by kernel_rfl) (by kernel_rfl) fun K hK=>?_;simp(disch:=omega)[bY,bH,hn];refine aB (c) rfl ?_;simp(disch:=omega) ;apply hK;clear hK K;apply an;simp(disch:=omega) ;exact⟨hi,true,rfl,by omega,fun _=>⟨hn,he⟩,fun h=>(by cases h),h3⟩
    ·have hz:¬ph (l.getD hi t0).k k=0:=fun h=>he ((xd _ _).1 h);generalize ph (l.getD hi t0).k k=q at *;have bq:(q==0)=false:=by simpa using hz
     refine aM [] [] [] au (by kernel_rfl) (by kernel_rfl) fun K hK=>?_;simp(disch:=omega)[bY,bH,hn];refine aB (c) rfl ?_;simp(disch:=omega)[bq,hz];apply hK;clear hK K;apply an;simp(disch:=omega) ;refine⟨hi,false,rfl,by omega,fun h=>(by cases h),fun _ hv j hj DM=>?_,h3⟩;rcases Nat.lt_trichotomy j hi with h5|h5|h5
     ·exact tK ((h3 hv).1 j h5) DM
     ·subst h5;exact he DM
     ·have h6:=(h3 hv).2 hi (Nat.le_refl _) hn;have h7:=hv _ _ h5 hj;rw[DM,h6] at h7
      cases h7
   ·have bn:decide ((hi:Int)<l.length)=false:=by simp;omega
    refine aM [] [] [] au (by kernel_rfl) (by kernel_rfl) fun K hK=>?_;simp(disch:=omega)[bn,hn];apply hK;clear hK K;apply an;simp(disch:=omega) ;refine⟨hi,false,rfl,by omega,fun h=>(by cases h),fun _ hv j hj DM=>?_,h3⟩;exact tK ((h3 hv).1 j (by omega)) DM
def yW (l:List Tm)(k:Ky):List Ps:=((l.find? fun t=>decide (t.k=k)).map (·.l)).getD []
def oY (s:Sg)(k:Ky):List Ps:=if aW s=true then yW s.aJ k else []
theorem C7 {l:List Tm}{k:Ky}(h:∀j,j<l.length→(l.getD j t0).k≠k):yW l k=[]:=by
 unfold yW;rw[List.find?_eq_none.2]
 ·rfl
 ·intro t ht;obtain⟨j,hj,rfl⟩:=bP t0 ht;simpa using h j hj
theorem J7 {l:List Tm}(h:yU l){i j:Nat}(hi:i<l.length)(hj:j<l.length)(he:(l.getD i t0).k=(l.getD j t0).k):i=j:=by
 rcases Nat.lt_trichotomy i j with h1|h1|h1
 ·exact absurd he (tK (h i j h1 hj))
 ·exact h1
 ·exact absurd he.symm (tK (h j i h1 hi))
theorem JR {l:List Tm}{k:Ky}{i:Nat}(h:yU l)(hi:i<l.length)(hk:(l.getD i t0).k=k):yW l k=(l.getD i t0).l:=by
 unfold yW
 cases hf:l.find? fun t=>decide (t.k=k) with
 |none=>exact absurd hk (by simpa using List.find?_eq_none.1 hf _ (aR l i t0 hi))
 |some t=>
  have h1:=List.find?_some hf;obtain⟨j,hj,rfl⟩:=bP t0 (List.mem_of_find?_eq_some hf);have h2:(l.getD j t0).k=k:=by simpa using h1
  have:i=j:=J7 h hi hj (hk.trans h2.symm);subst this;rfl
theorem u4 {s:Sg}(h:aW s=true):yU s.aJ:=by
 obtain⟨_,⟨h1,_⟩,_⟩:=fe h;refine J8 fun i h0 hi=>?_;have:=(h1 i hi).1;unfold jT at this;simp only[Bool.and_eq_true,Bool.or_eq_true,decide_eq_true_eq] at this;rcases this.2 with h2|h2
 ·omega
 ·exact h2
theorem AT {s:Sg}(h:aW s=true){i:Nat}(hi:i<s.aJ.length):bc (s.aJ.getD i t0).l=true:=by
 obtain⟨_,⟨h1,_⟩,_⟩:=fe h;have:=(h1 i hi).2;unfold qV at this;simp only[Bool.and_eq_true] at this;exact this.1.2
theorem Gz (d:Int):posOf [] d=[]:=rfl
theorem FX {l:List Ps}(h:bc l=true):jh l []=l:=by
 have h0:VL ([]:PL):=by unfold VL;rfl
 refine aac (aad h h0) h fun d z=>?_;rw[Qe h h0,Gz];simp
attribute [-simp] getD_eq_getElem?_getD in
theorem Kz (s:Sg)(hs:re s)(f:Int)(w:Bs)(H:List aG)(T:ay):al Tryz.prog 20 [il s,.int .i64 f,.str w] H T (Is (.sl (oY s (f,w)).length (bp (oY s (f,w))) .none) H T):=by
 refine al.dS ?_ (by simp);have hu:=hs.w;have cv:=fun H=>jL s hs H T;have cb:=sI s.aJ (f,w) (.sl 0 [] .full) hs.t (H++[.cells (cG s)]) T .none (by simp);have yM:=fun h=>u4 (s:=s) h;have yv:=fun h i=>AT (s:=s) h (i:=i);refine aj 12 [] Tryz.ntmps20 Tryz.func20 rfl (fun _ _=>Tryz.call20 _ _) (by simp) (fun HO=>?_);apply ae;intro K h;simp(disch:=omega);apply h;clear h K;refine ae fun K hK=>?_;simp(disch:=omega) ;refine⟨_,cb,?_⟩;rintro r H' T' ⟨rfl,rfl,i,b,rfl,hi,h1,h2,h3⟩;simp(disch:=omega) ;apply hK;clear hK K;refine af fun K1 aO=>?_
 cases b with
 |false=>
  have hf:oY s (f,w)=[]:=by
   unfold oY
   split
   ·rename_i hv;exact C7 (h2 rfl (yM hv))
   ·rfl
  apply ae;intro K h;simp(disch:=omega);apply h;clear h K;apply aH rfl;apply ae;intro K h;simp(disch:=omega);apply h;clear h K;apply an;simp(disch:=omega) ;simp[hf];rfl
 |true=>
  obtain⟨cW,hik⟩:=h1 rfl
  cases hv:aW s with
  |false=>
   rw[hv] at cv;have hf:oY s (f,w)=[]:=by unfold oY;rw[hv];rfl
   refine ae fun K hK=>?_;simp(disch:=omega) ;refine ah (cv _) ?_;simp(disch:=omega) ;apply hK;clear hK K;apply aH rfl;apply ae;intro K h;simp(disch:=omega);apply h;clear h K;apply an;simp(disch:=omega) ;simp[hf];rfl
  |true=>
   rw[hv] at cv;have hl:=yv hv i cW;have hf:oY s (f,w)=(s.aJ.getD i t0).l:=by unfold oY;rw[if_pos hv,JR (yM hv) cW hik]
   have gR:=(qf s.aJ i cW).2.2;obtain⟨_,q2,q3⟩:=hu _ (aR s.aJ i t0 cW);have cu:=fun H=>Jn (s.aJ.getD i t0).l [] q2 (by simp) q3 (by simp) H T' .none .full;rw[FX hl] at cu;refine ae fun K hK=>?_;simp(disch:=omega) ;refine ah (cv _) ?_;simp(disch:=omega) ;apply hK;clear hK K;apply aC rfl;apply ak;simp(disch:=omega) ;apply aO;clear aO;refine ae fun K hK=>?_;simp(disch:=omega)[gR,bH,cW];refine ah (cu _) ?_;simp(disch:=omega) ;apply hK;clear hK K;apply an;simp(disch:=omega) ;exact⟨by rw[hf],by rw[hf]⟩
def lx (p w:Bs):Bool:=decide (p.length≤w.length)&&(w.take p.length==p)
attribute [-simp] getD_eq_getElem?_getD in
theorem Nk (w p:Bs)(hw:w.length≤maxLen)(hp:p.length≤maxLen)(H:List aG)(T:ay):al Tryz.prog 81 [.str w,.str p] H T (Is (.bool (lx p w)) H T):=by
 have ik:maxLen≤9223372036854775807:=by decide
 have c:al Tryz.prog 154 [.str w,.str p] H T (Is (.bool (lx p w)) H T):=by
  generalize hq:lx p w=q;unfold lx at hq;refine aj 5 [] Tryz.ntmps154 Tryz.func154 rfl (fun _ _=>Tryz.call154 _ _) (by simp) (fun HO=>?_);apply ae;intro K h;simp(disch:=omega);apply h;clear h K
  by_cases h:p.length≤w.length
  ·have b:decide ((p.length:Int)≤w.length)=true:=decide_eq_true (by omega);rw[decide_eq_true h,Bool.true_and] at hq;refine ae fun K hK=>?_;simp(disch:=omega)[b,h];apply hK;clear hK K;apply an;simp(disch:=omega) ;rw[←hq];exact⟨rfl,rfl,rfl⟩
  ·have b:decide ((p.length:Int)≤w.length)=false:=decide_eq_false (by omega);rw[decide_eq_false h,Bool.false_and] at hq;refine ae fun K hK=>?_;simp(disch:=omega)[b,h];apply hK;clear hK K;apply an;simp(disch:=omega) ;rw[←hq];exact⟨rfl,rfl,rfl⟩
 generalize lx p w=q at *;refine aj 5 [] Tryz.ntmps81 Tryz.func81 rfl (fun _ _=>Tryz.call81 _ _) (by simp) (fun HO=>?_);apply ae;intro K h;simp(disch:=omega);apply h;clear h K;refine ae fun K hK=>?_;simp(disch:=omega) ;refine ah (c) ?_;simp(disch:=omega) ;apply hK;clear hK K;apply an;simp(disch:=omega) ;exact⟨rfl,rfl,rfl⟩
end Go.Proofs.YtneohapkboaplaaGreat
namespace gH
theorem Ac (w:tT):Go.Proofs.YtneohapkboaplaaGreat.lx [] w=true:=by simp[Go.Proofs.YtneohapkboaplaaGreat.lx]
theorem wT (x y:UInt8)(p w:tT):Go.Proofs.YtneohapkboaplaaGreat.lx (x::p) (y::w)=(x==y&&Go.Proofs.YtneohapkboaplaaGreat.lx p w):=by
 unfold Go.Proofs.YtneohapkboaplaaGreat.lx;rw[Bool.eq_iff_iff];simp only[List.length_cons,List.take_succ_cons,Bool.and_eq_true,decide_eq_true_eq,beq_iff_eq,List.cons.injEq,Nat.add_le_add_iff_right]
 constructor
 ·rintro⟨h1,h2,h3⟩;exact⟨h2.symm,h1,h3⟩
 ·rintro⟨h1,h2,h3⟩;exact⟨h2,h1.symm,h3⟩
theorem zA (x y:UInt8)(p w:tT):slt (x::p) (y::w)=(decide (x<y)||(x==y&&slt p w)):=rfl
theorem MM (p:tT):slt p []=false:=by cases p<;>rfl
theorem Jy (x:UInt8)(p:tT):slt [] (x::p)=true:=rfl
theorem Ab:∀(p w:tT),slt w p=true→Go.Proofs.YtneohapkboaplaaGreat.lx p w=false
 |[],w,h=>by rw[MM] at h;cases h
 |x::p,[],h=>by simp[Go.Proofs.YtneohapkboaplaaGreat.lx]
 |x::p,y::w,h=>by
  rw[zA] at h;rw[wT];simp only[Bool.or_eq_true,decide_eq_true_eq,Bool.and_eq_true,beq_iff_eq] at h;rcases h with h|⟨_,h⟩
  ·have:(x==y)=false:=by
    rw[beq_eq_false_iff_ne];rintro rfl;exact absurd h (UInt8.lt_irrefl _)
   rw[this];rfl
  ·rw[Ab p w h,Bool.and_false]
theorem qH:∀(p w v:tT),slt w p=false→slt w v=true→Go.Proofs.YtneohapkboaplaaGreat.lx p v=true→Go.Proofs.YtneohapkboaplaaGreat.lx p w=true
 |[],w,v,_,_,_=>Ac w
 |x::p,[],v,h,_,_=>by rw[Jy] at h;cases h
 |x::p,y::w,[],_,_,h=>by simp[Go.Proofs.YtneohapkboaplaaGreat.lx] at h
 |x::p,y::w,z::v,h1,h2,h3=>by
  rw[zA] at h1 h2;rw[wT] at h3 ⊢;simp only[Bool.or_eq_false_iff,decide_eq_false_iff_not,Bool.and_eq_false_iff,beq_eq_false_iff_ne,Bool.or_eq_true,decide_eq_true_eq,Bool.and_eq_true,beq_iff_eq] at h1 h2 h3 ⊢;obtain⟨rfl,h3⟩:=h3;rcases h2 with h2|⟨rfl,h2⟩
  ·exact absurd h2 h1.1
  ·refine⟨rfl,qH p w v ?_ h2 h3⟩;rcases h1.2 with h|h
   ·exact absurd rfl h
   ·simpa using h
end gH
namespace Go.Proofs.YtneohapkboaplaaGreat
open Go Go.Am gH eB dc
def gY (f:Int)(p:Bs)(t:Tm):Bool:=decide (t.f=f)&&lx p t.w
def xB (l:List Tm)(f:Int)(p:Bs):List Bs:=(l.filter (gY f p)).map (·.w)
def k9 (s:Sg)(f:Int)(p:Bs):List Bs:=if aW s=true then xB s.aJ f p else []
theorem Bh {f:Int}{p:Bs}{t:Tm}(h:bU t.k (f,p)=true):gY f p t=false:=by
 unfold gY;unfold bU at h;simp only[Bool.or_eq_true,decide_eq_true_eq,Bool.and_eq_true] at h;rcases h with h|⟨h1,h2⟩
 ·rw[decide_eq_false (by omega)];rfl
 ·rw[Ab _ _ h2,Bool.and_false]
theorem vP {f:Int}{p:Bs}{t u:Tm}(h1:bU t.k (f,p)=false)(h2:bU t.k u.k=true)(h3:gY f p u=true):gY f p t=true:=by
 unfold gY at h3 ⊢;unfold bU at h1 h2;simp only[Bool.or_eq_true,decide_eq_true_eq,Bool.and_eq_true,Bool.or_eq_false_iff,decide_eq_false_iff_not,Bool.and_eq_false_iff] at h1 h2 h3 ⊢;obtain⟨e,h3⟩:=h3;rcases h2 with h2|⟨h2,h4⟩
 ·omega
 ·refine⟨by omega,qH p t.w u.w ?_ h4 h3⟩;rcases h1.2 with h|h
  ·omega
  ·simpa using h
theorem Bn {l:List Tm}{M:Tm→Bool}{i j:Nat}(lY:i+j≤l.length)(h1:∀m,m<i→M (l.getD m t0)=false)(h2:∀m,m<j→M (l.getD (i+m) t0)=true)(h3:∀m,i+j≤m→m<l.length→M (l.getD m t0)=false) :
  l.filter M=(l.drop i).take j:=by
 have e:l=l.take i++((l.drop i).take j++l.drop (i+j)):=by
  rw[←List.drop_drop,List.take_append_drop,List.take_append_drop]
 conv=>lhs;rw[e]
 rw[List.filter_append,List.filter_append];have a1:(l.take i).filter M=[]:=by
  rw[List.filter_eq_nil_iff];intro x hx;obtain⟨k,hk,rfl⟩:=bP t0 hx;rw[List.length_take] at hk;have:(l.take i).getD k t0=l.getD k t0:=by simp[getD_eq_getElem?_getD,List.getElem?_take,show k<i by omega]
  rw[this,h1 k (by omega)];simp
 have a2:(l.drop (i+j)).filter M=[]:=by
  rw[List.filter_eq_nil_iff];intro x hx;obtain⟨k,hk,rfl⟩:=bP t0 hx;rw[length_drop] at hk;have:(l.drop (i+j)).getD k t0=l.getD (i+j+k) t0:=by simp[getD_eq_getElem?_getD,List.getElem?_drop]
  rw[this,h3 _ (by omega) (by omega)];simp
 have a3:((l.drop i).take j).filter M=(l.drop i).take j:=by
  rw[List.filter_eq_self];intro x hx;obtain⟨k,hk,rfl⟩:=bP t0 hx;rw[List.length_take,length_drop] at hk;have:((l.drop i).take j).getD k t0=l.getD (i+k) t0:=by simp[getD_eq_getElem?_getD,List.getElem?_take,List.getElem?_drop,show k<j by omega]
  rw[this,h2 _ (by omega)]
 rw[a1,a2,a3];simp
theorem CC {l:List Tm}{f:Int}{p:Bs}{i j:Nat}(ho:yU l)(lY:i+j≤l.length)(h1:∀m,m<i→bU (l.getD m t0).k (f,p)=true)(h2:∀m,i≤m→m<l.length→bU (l.getD m t0).k (f,p)=false)
  (h3:∀m,m<j→gY f p (l.getD (i+m) t0)=true) (h4:i+j<l.length→gY f p (l.getD (i+j) t0)=false):xB l f p=((l.drop i).take j).map (·.w):=by
 unfold xB;rw[Bn lY (fun m hm=>Bh (h1 m hm)) h3];intro m NR HG;rcases Nat.lt_or_ge (i+j) m with h|h
 ·cases hc:gY f p (l.getD m t0) with
  |false=>rfl
  |true=>
   have:=vP (h2 (i+j) (by omega) (by omega)) (ho (i+j) m h HG) hc;rw[h4 (by omega)] at this
   cases this
 ·have:m=i+j:=by omega
  subst this;exact h4 HG
theorem FN (s : Sg) (hs : re s) (f : Int) (p : Bs) (hp : p.length ≤ maxLen) (H : List aG) (T : ay) : al Tryz.prog 23 [il s, .int .i64 f, .str p] H T (Is (.sl (k9 s f p).length (strs (k9 s f p)) .none) H T) := by
  refine al.dS ?_ (by simp);have cv := fun H => jL s hs H T;have cb := sI s.aJ (f, p) (.sl 0 [] .full) hs.t (H ++ [.cells (cG s)]) T .none (by simp);have yM := fun h => u4 (s := s) h;have hw := hs.w;have lV := hs.t;refine aj 31 [] Tryz.ntmps23 Tryz.func23 rfl (fun _ _ => Tryz.call23 _ _) (by simp) (fun HO => ?_);refine ae fun K hK => ?_; simp (maxSteps := 1000000) (disch := omega) [-getD_eq_getElem?_getD]; refine hK _ ?_; clear hK K;refine ae fun K hK => ?_; simp (maxSteps := 1000000) (disch := omega) [-getD_eq_getElem?_getD]; refine hK _ ?_; clear hK K;refine af fun K1 aO => ?_;have kx : bM (H ++ [.cells (cG s)]) T := HO.snoc (by simp)
  cases hv : aW s with
  | false =>
    rw [hv] at cv
    have hf : k9 s f p = [] := by unfold k9; rw [hv]; rfl
    refine ae fun K hK => ?_; simp (maxSteps := 1000000) (disch := omega) [-getD_eq_getElem?_getD]
    refine ah (cv _) ?_; simp (maxSteps := 1000000) (disch := omega) [-getD_eq_getElem?_getD]
    refine hK _ ?_; clear hK K
    refine aP rfl (fun h => ?_) (fun h => absurd h (by simp))
    refine ae fun K hK => ?_; simp (maxSteps := 1000000) (disch := omega) [-getD_eq_getElem?_getD]; refine hK _ ?_; clear hK K
    apply an; simp (maxSteps := 1000000) (disch := omega) [-getD_eq_getElem?_getD]
    simp [hf]
  | true =>
  rw [hv] at cv;have hf : k9 s f p = xB s.aJ f p := by unfold k9; rw [if_pos hv]
  have ho := yM hv;refine ae fun K hK => ?_; simp (maxSteps := 1000000) (disch := omega) [-getD_eq_getElem?_getD];refine ah (cv _) ?_; simp (maxSteps := 1000000) (disch := omega) [-getD_eq_getElem?_getD];refine hK _ ?_; clear hK K;refine aP rfl (fun h => absurd h (by simp)) (fun h => ?_);apply ak; simp (maxSteps := 1000000) (disch := omega) [-getD_eq_getElem?_getD];refine aO _ ?_; clear aO;refine ae fun K hK => ?_; simp (maxSteps := 1000000) (disch := omega) [-getD_eq_getElem?_getD];refine ⟨_, cb, ?_⟩;rintro r H' T' ⟨rfl, rfl, i, b, rfl, hi, h1, h2, h3⟩;simp (maxSteps := 1000000) (disch := omega) [-getD_eq_getElem?_getD];refine hK _ ?_; clear hK K;refine af fun K1 aO => ?_;obtain ⟨h4, h5⟩ := h3 ho;have vv := F0 s.aJ i;have L4 : (s.aJ.drop i).length = s.aJ.length - i := length_drop;have kS : List.take ((s.aJ.length - i) * 3) (bX (s.aJ.drop i)) = bX (s.aJ.drop i) := List.take_of_length_le (by rw [bH, L4]; omega);have hDg : ∀ m, (s.aJ.drop i).getD m t0 = s.aJ.getD (i + m) t0 := fun m => by simp [getD_eq_getElem?_getD, List.getElem?_drop]
  refine ae fun K hK => ?_; simp (maxSteps := 1000000) (disch := omega) [-getD_eq_getElem?_getD, vv, bH, hi, kS]; refine hK _ ?_; clear hK K;rw [← L4];have Oz : ∀ j, j ≤ (s.aJ.drop i).length → (∀ m, m < j → gY f p (s.aJ.getD (i + m) t0) = true) → (j < (s.aJ.drop i).length → gY f p (s.aJ.getD (i + j) t0) = false) → k9 s f p = ((s.aJ.drop i).take j).map (·.w) := fun j j1 j2 j3 => by
    rw [hf];exact CC ho (by omega) h4 h5 j2 (fun h => j3 (by omega))
  have ZB : ∀ m, m < (s.aJ.drop i).length → (s.aJ.getD (i + m) t0).w.length ≤ maxLen := fun m hm => (hw _ (aR _ _ _ (by omega))).1;have acA : (s.aJ.drop i).length ≤ 1000 := by omega
  clear hf cv cb yM hw lV h1 h2 h3 h4 h5 vv kS;generalize hD : s.aJ.drop i = D at *;generalize k9 s f p = res at *;apply ai;refine jm 7 0 1 [] (by omega) (by simp) ?_;refine aK (X := Nat) (fun j => ⟨[(1, .int .i64 f), (2, .str p), (7, .sl j (strs ((D.map (·.w)).take j)) (.own T'.length)), (28, .sl D.length (bX D) .none), (29, .int .i64 (D.length : Nat)), (30, .int .i64 (j : Nat))], H ++ [.cells (cG s)], T' ++ [(j, 1)]⟩)
    (fun j => j ≤ D.length ∧ ∀ m, m < j → gY f p (s.aJ.getD (i + m) t0) = true) (fun j => D.length - j) 0 ?_ ?_ ?_
  · exact ⟨Nat.zero_le _, fun j hj => absurd hj (Nat.not_lt_zero _)⟩
  · refine ag [] [] ?_ ?_ ?_ ?_ (kx.df (by simp)) ?_
    all_goals simp
  · rintro j ⟨g1, g2⟩;have aax : ∀ m, m < j + 1 → m < j ∨ m = j := fun m hm => by omega
    refine ae fun K hK => ?_; simp (maxSteps := 1000000) (disch := omega) [-getD_eq_getElem?_getD]; refine hK _ ?_; clear hK K;refine af fun K2 aY => ?_;refine aP rfl (fun hk => ?_) (fun hk => ?_)
    · simp [-getD_eq_getElem?_getD] at hk;have bY := gk D j hk;have lV : (strs ((D.map (·.w)).take j)).length = j := by simp; omega
      have kS : strs ((D.map (·.w)).take j) ++ [.str (D.getD j t0).w] = strs ((D.map (·.w)).take (j + 1)) := by rw [F3, ← map_take, ← map_take, dx D j t0 hk]; simp
      have Lk := ZB j hk;rw [← hDg j] at Lk;have hm : gY f p (s.aJ.getD (i + j) t0) = (decide ((D.getD j t0).f = f) && lx p (D.getD j t0).w) := by rw [← hDg j]; rfl
      generalize D.getD j t0 = t at *;obtain ⟨tf, tw, tl⟩ := t;simp only at bY kS Lk hm;have o9 : ∀ r, res = r → r = (D.take j).map (·.w) → j = res.length ∧ strs ((D.map (·.w)).take j) = strs res := fun r e1 e2 => by rw [e1, e2, map_take]; exact ⟨by simp; omega, rfl⟩
      have Tj : aL (H.length + 2) (T'.length + 1) (strs ((D.map (·.w)).take j)) := by simp
      generalize strs ((D.map (·.w)).take j) = out at *;apply ak; simp (maxSteps := 1000000) (disch := omega) [-getD_eq_getElem?_getD];refine aY _ ?_; clear aY;refine af fun K3 bA => ?_;apply ai;refine ae fun K hK => ?_; simp (maxSteps := 1000000) (disch := omega) [-getD_eq_getElem?_getD, bY, bH]; refine hK _ ?_; clear hK K;have fD : bM (H ++ [.cells (cG s), .cells (jb ⟨tf, tw, tl⟩)]) (T' ++ [(j, 1)]) := by
        have := (bM.snoc (vs := jb ⟨tf, tw, tl⟩) kx (by simp)).df (T' := T' ++ [(j, 1)]) (by simp);simpa using this
      refine af fun K4 ec => ?_;have c := Nk tw p Lk hp (H ++ [.cells (cG s), .cells (jb ⟨tf, tw, tl⟩)]) (T' ++ [(j, 1)]);have stop : ∀ e, gY f p (s.aJ.getD (i + j) t0) = false → b9 (H.length + 2) (T'.length + 1) e [(7, .sl j out (.own T'.length))] → K1 ⟨e, H ++ [.cells (cG s), .cells (jb ⟨tf, tw, tl⟩)], T' ++ [(j, 1)]⟩ := by
        intro e hmf he;have hr := Oz j g1 g2 (fun _ => hmf);refine aO _ (aQ ⟨[(7, .sl j out (.own T'.length))], H ++ [.cells (cG s), .cells (jb ⟨tf, tw, tl⟩)], T' ++ [(j, 1)]⟩ (ag [] [] (by simp) (by simp) (by simp) (by simp) fD (by simpa using he)) ?_);refine ae fun K hK => ?_; simp (maxSteps := 1000000) (disch := omega) [-getD_eq_getElem?_getD]; refine hK _ ?_; clear hK K;apply an; simp (maxSteps := 1000000) (disch := omega) [-getD_eq_getElem?_getD];exact o9 _ rfl hr
      by_cases hf : tf = f
      · subst hf;rw [decide_eq_true rfl, Bool.true_and] at hm
        cases ZI : lx p tw with
        | false =>
          rw [ZI] at c hm
          refine ae fun K hK => ?_; simp (maxSteps := 1000000) (disch := omega) [-getD_eq_getElem?_getD]
          refine ah (c) ?_; simp (maxSteps := 1000000) (disch := omega) [-getD_eq_getElem?_getD]
          refine hK _ ?_; clear hK K
          refine aP rfl (fun h => ?_) (fun h => absurd h (by simp))
          apply aD; simp (maxSteps := 1000000) (disch := omega) [-getD_eq_getElem?_getD]
          refine stop _ hm ?_
          simp [Tj]
        | true =>
          rw [ZI] at c hm
          refine ae fun K hK => ?_; simp (maxSteps := 1000000) (disch := omega) [-getD_eq_getElem?_getD]
          refine ah (c) ?_; simp (maxSteps := 1000000) (disch := omega) [-getD_eq_getElem?_getD]
          refine hK _ ?_; clear hK K
          refine aP rfl (fun h => absurd h (by simp)) (fun h => ?_)
          apply ak; simp (maxSteps := 1000000) (disch := omega) [-getD_eq_getElem?_getD]
          refine ec _ ?_; clear ec
          refine ar fun K hK => ?_; simp (maxSteps := 1000000) (disch := omega) [-getD_eq_getElem?_getD, lV, kS]
          refine hK _ ?_; clear hK K
          refine bA _ ?_; clear bA
          refine ar fun K hK => ?_; simp (maxSteps := 1000000) (disch := omega) [-getD_eq_getElem?_getD]
          refine hK _ ?_; clear hK K
          refine ⟨j + 1, ⟨by show j + 1 ≤ _; omega, fun m HG => ?_⟩, by show D.length - (j + 1) < D.length - j; omega, ?_⟩
          · rcases aax m HG with h | rfl
            · exact g2 m h
            · exact hm
          · refine ag [.cells (jb ⟨tf, tw, tl⟩)] [] ?_ ?_ ?_ ?_ (kx.df (by simp)) ?_
            all_goals simp
      · have b1 : (tf != f) = true := by simp [hf]
        rw [decide_eq_false hf, Bool.false_and] at hm;refine ae fun K hK => ?_; simp (maxSteps := 1000000) (disch := omega) [-getD_eq_getElem?_getD, b1, hf];refine hK _ ?_; clear hK K;refine aP rfl (fun h => ?_) (fun h => absurd h (by simp));apply aD; simp (maxSteps := 1000000) (disch := omega) [-getD_eq_getElem?_getD];refine stop _ hm ?_;simp [Tj]
    · simp [-getD_eq_getElem?_getD] at hk;have hj : j = D.length := by omega
      have hr := Oz j g1 g2 (fun h => by omega);apply aD; simp (maxSteps := 1000000) (disch := omega) [-getD_eq_getElem?_getD];refine aO _ ?_; clear aO;refine ae fun K hK => ?_; simp (maxSteps := 1000000) (disch := omega) [-getD_eq_getElem?_getD]; refine hK _ ?_; clear hK K;apply an; simp (maxSteps := 1000000) (disch := omega) [-getD_eq_getElem?_getD];rw [hr, map_take];exact ⟨by simp; omega, rfl⟩
end Go.Proofs.YtneohapkboaplaaGreat
