/- The encoding of segments (layer 39), in plain lists: what is read is the encoding, and what is encoded is read back.
  Conditions: none. -/
import Derived.Test.YtneohapkboaplaaGreatPPl7
import Derived.Test.YtneohapkboaplaaGreatGV
set_option linter.all false
set_option maxRecDepth 100000
open List (length_append drop_drop drop_left append_assoc nil_append length_drop append_nil)
namespace Go.Proofs.YtneohapkboaplaaGreat
open Go Go.Am gH dc eB
open gB hiding aR
def qS (y:Nm):Bs:=enc y.1++enc y.2
def fY (t:Tm):Bs:=enc t.f++(bf t.w++bf (eL t.l))
def l7 (c:Cl):Bs:=enc c.f++(enc c.x.length++c.x.flatMap qS)
def jK (s:Sg):Bs:=cM s.aw++(enc s.aJ.length++(s.aJ.flatMap fY++(enc s.az.length++s.az.flatMap l7)))
def DE (bs:Bs)(s:Rd):Nm×Rd:=(((aI bs 0 1000000000000 s).1,(aI bs 1 1000000000 (aI bs 0 1000000000000 s).2).1),(aI bs 1 1000000000 (aI bs 0 1000000000000 s).2).2)
def DR (lim:Rd→Int)(bs:Bs)(s:Rd):Cl×Rd:=
 let a:=aI bs 5 7 s
 let m:=aI bs 0 (lim a.2) a.2
 let q:=bO (DE bs) m.1.toNat m.2 []
 (⟨a.1,q.1⟩,q.2)
def jP (lim:Rd→Int)(pd:Bs→PL×Int)(bs:Bs)(s:Rd):Tm×Rd:=
 let a:=aI bs 1 4 s
 let b:=bD bs 100 a.2
 let c:=bD bs (lim b.2) b.2
 let l:=pd c.1
 (⟨a.1,b.1,l.1⟩,⟨c.2.at_,c.2.bad||decide (l.2≠0)⟩)
def Ci (pd:Bs→PL×Int)(limN vF limM vE:Bs→Rd→Int)(bs:Bs):Sg×Int:=
 let d:=eu bs 2000 (aI bs 1 1000000000) ⟨0,false⟩
 let n:=aI bs 0 (limN bs d.2) d.2
 let t:=bO (jP (vF bs) pd bs) n.1.toNat n.2 []
 let m:=aI bs 0 (limM bs t.2) t.2
 let c:=bO (DR (vE bs) bs) m.1.toNat m.2 []
 if dt bs c.2≠0∨aW ⟨d.1,t.1,c.1⟩=false then (gh,5) else (⟨d.1,t.1,c.1⟩,0)
theorem ia {α:Type}{e:α→Bs}:∀{l:List α},(∀x∈l,0<(e x).length)→l.length≤(l.flatMap e).length
 |[],_=>Nat.zero_le _
 |x::l,h=>by
  have:=ia (e:=e) (l:=l) fun y hy=>h y (by simp[hy]);have:=h x (by simp);rw[List.flatMap_cons,length_append,List.length_cons];omega
theorem ie {n:Int}(h:o3 n):0<(enc n).length:=(eN h.1 h.2).1
def PC (y:Nm):Prop:=OW 0 1000000000000 y.1∧OW 1 1000000000 y.2
theorem I1:lC qS DE PC:=by
 constructor
 ·rintro bs at_ rest ⟨x,y⟩ ⟨h1,h2⟩ hd;unfold qS at hd;simp only[append_assoc] at hd;have r1:aI bs 0 1000000000000 ⟨at_,false⟩=_:=(bz 0 1000000000000).round bs at_ _ x h1 hd;have jc:bs.drop (at_+(enc x).length)=enc y++rest:=by rw[←drop_drop,hd,drop_left]
  have r2:aI bs 1 1000000000 ⟨at_+(enc x).length,false⟩=_:=(bz 1 1000000000).round bs _ _ y h2 jc;unfold DE qS;rw[r1];simp only;rw[r2];simp only[length_append];rw[Nat.add_assoc]
 ·intro bs at_ hle hb;unfold DE at hb ⊢;simp only at hb ⊢;have qR:=iT hb;obtain⟨a1,a2,a3⟩:=(bz 0 1000000000000).canon bs at_ hle qR;generalize aI bs 0 1000000000000 ⟨at_,false⟩=p at *;obtain⟨x,⟨qa,qb⟩⟩:=p;simp only at *;subst qR;obtain⟨b1,b2,b3⟩:=(bz 1 1000000000).canon bs qa a2 hb;refine⟨⟨a1,b1⟩,b2,?_⟩;unfold qS;rw[a3,b3,append_assoc]
theorem ED {y:Nm}(h:PC y):0<(qS y).length:=by
 unfold qS;rw[length_append];have:=ie h.1.2.2;omega
section
variable {lim : Bs → Rd → Int} (Cd : ∀ bs s, ((bs.length - s.at_ : Nat) : Int) ≤ lim bs s)
def Mb (c:Cl):Prop:=OW 5 7 c.f∧o3 c.x.length∧∀y∈c.x,PC y
include Cd
theorem Cy:lC l7 (fun bs s=>DR (lim bs) bs s) Mb:=by
 constructor
 ·rintro bs at_ rest ⟨f,x⟩ ⟨h1,h2,h3⟩ hd;unfold l7 at hd;simp only[append_assoc] at hd h1 h2 h3;have r1:aI bs 5 7 ⟨at_,false⟩=_:=(bz 5 7).round bs at_ _ f h1 hd;have jc:bs.drop (at_+(enc f).length)=enc x.length++(x.flatMap qS++rest):=by rw[←drop_drop,hd,drop_left]
  have hle:(x.length:Int)≤lim bs ⟨at_+(enc f).length,false⟩:=by
   refine Int.le_trans ?_ (Cd bs _);have e1:=congrArg List.length jc;rw[length_drop,length_append,length_append] at e1;have e2:=ia (e:=qS) fun y hy=>ED (h3 y hy);simp only;omega
  have r2:aI bs 0 (lim bs ⟨at_+(enc f).length,false⟩) ⟨at_+(enc f).length,false⟩=_:=(bz 0 _).round bs _ _ (x.length:Int) ⟨by omega,hle,h2⟩ jc;have HI:bs.drop (at_+(enc f).length+(enc (x.length:Int)).length)=x.flatMap qS++rest:=by rw[←drop_drop,jc,drop_left]
  have r3:=kQ I1 bs x _ rest [] h3 HI;unfold DR l7;simp only;rw[r1];simp only;rw[r2];simp only[Int.toNat_natCast];rw[r3];simp only[nil_append,length_append];rw[Nat.add_assoc,Nat.add_assoc]
 ·intro bs at_ hle hb;unfold DR at hb ⊢;simp only at hb ⊢;have fW:(aI bs 0 (lim bs (aI bs 5 7 ⟨at_,false⟩).2) (aI bs 5 7 ⟨at_,false⟩).2).2.bad=false:=by
   cases hq:(aI bs 0 (lim bs (aI bs 5 7 ⟨at_,false⟩).2) (aI bs 5 7 ⟨at_,false⟩).2).2.bad with
   |false=>rfl
   |true=>rw[dL _ _ _ _ hq] at hb;rw[hq] at hb;cases hb
  have qR:=iT fW;obtain⟨a1,a2,a3⟩:=(bz 5 7).canon bs at_ hle qR;generalize aI bs 5 7 ⟨at_,false⟩=p at *;obtain⟨f,⟨qa,qb⟩⟩:=p;simp only at *;subst qR;obtain⟨⟨b0,b1,b1'⟩,b2,b3⟩:=(bz 0 (lim bs ⟨qa,false⟩)).canon bs qa a2 fW;generalize aI bs 0 (lim bs ⟨qa,false⟩) ⟨qa,false⟩=p at *;obtain⟨m,⟨ra,rb⟩⟩:=p;simp only at *;subst fW;obtain⟨l,k1,k2,k3,k4,k5⟩:=gL I1 bs m.toNat ra [] b2 hb;rw[nil_append] at k3;have hm:((m.toNat:Nat):Int)=m:=by omega
  rw[k3];refine⟨⟨a1,by show o3 (l.length:Nat);rw[k1,hm];exact b1',k2⟩,k4,?_⟩;unfold l7;simp only;rw[a3,b3,k5,k1,hm,append_assoc,append_assoc]
theorem sx {bs:Bs}{at_:Nat}{rest x:Bs}(hx:o3 x.length)(hd:bs.drop at_=bf x++rest):bD bs (lim bs ⟨at_,false⟩) ⟨at_,false⟩=(x,⟨at_+(bf x).length,false⟩):=by
 refine(lL (lim bs ⟨at_,false⟩)).round bs at_ rest x ⟨?_,hx⟩ hd;refine Int.le_trans ?_ (Cd bs _);have e1:=congrArg List.length hd;unfold bf at e1;rw[length_drop,length_append,length_append] at e1;simp only;omega
variable {pd : Bs → PL × Int} (BE : ∀ x, (∃ l, pd x = (l, 0) ∧ bc l = true ∧ x = eL l) ∨ pd x = ([], 5))
def yH (pd:Bs→PL×Int)(t:Tm):Prop:=OW 1 4 t.f∧gB.Li 100 t.w∧o3 (eL t.l).length∧pd (eL t.l)=(t.l,0)
include BE
theorem xC:lC fY (fun bs s=>jP (lim bs) pd bs s) (yH pd):=by
 constructor
 ·rintro bs at_ rest ⟨f,w,l⟩ ⟨h1,h2,h3,h4⟩ hd;unfold fY at hd;simp only[append_assoc] at hd h1 h2 h3 h4;have r1:aI bs 1 4 ⟨at_,false⟩=_:=(bz 1 4).round bs at_ _ f h1 hd;have jc:bs.drop (at_+(enc f).length)=bf w++(bf (eL l)++rest):=by rw[←drop_drop,hd,drop_left]
  have r2:bD bs 100 ⟨at_+(enc f).length,false⟩=_:=(lL 100).round bs _ _ w h2 jc;have HI:bs.drop (at_+(enc f).length+(bf w).length)=bf (eL l)++rest:=by rw[←drop_drop,jc,drop_left]
  have r3:=sx Cd h3 HI;unfold jP fY;simp only;rw[r1];simp only;rw[r2];simp only;rw[r3];simp only;rw[h4];simp only[length_append];rw[Nat.add_assoc,Nat.add_assoc];rfl
 ·intro bs at_ hle hb;unfold jP at hb ⊢;simp only[Bool.or_eq_false_iff] at hb ⊢;obtain⟨Fe,hl⟩:=hb;have S6:∀{m:Int} {s:Rd},(bD bs m s).2.bad=false→s.bad=false:=fun {m s} h=>by
   unfold bD at h
   split at h
   ·cases h
   ·exact iT h
  have fW:=S6 Fe;have qR:=S6 fW;obtain⟨a1,a2,a3⟩:=(bz 1 4).canon bs at_ hle qR;generalize aI bs 1 4 ⟨at_,false⟩=p at *;obtain⟨f,⟨qa,qb⟩⟩:=p;simp only at *;subst qR;obtain⟨b1,b2,b3⟩:=(lL 100).canon bs qa a2 fW
  try simp only at b1 b2 b3
  generalize bD bs 100 ⟨qa,false⟩=p at *;obtain⟨w,⟨ra,rb⟩⟩:=p;simp only at *;subst fW;obtain⟨c1,c2,c3⟩:=(lL (lim bs ⟨ra,false⟩)).canon bs ra b2 Fe
  try simp only at c1 c2 c3
  generalize bD bs (lim bs ⟨ra,false⟩) ⟨ra,false⟩=p at *;obtain⟨x,⟨ta,tb⟩⟩:=p;simp only at *;rcases BE x with⟨l,e1,e2,e3⟩|e1
  ·rw[e1];subst e3;refine⟨⟨a1,b1,c1.2,e1⟩,c2,?_⟩;unfold fY;simp only;rw[a3,b3,c3,append_assoc,append_assoc]
  ·rw[e1] at hl;exact absurd hl (by decide)
end
section
variable {pd : Bs → PL × Int} (BE : ∀ x, (∃ l, pd x = (l, 0) ∧ bc l = true ∧ x = eL l) ∨ pd x = ([], 5))
variable {limN vF limM vE : Bs → Rd → Int} (hN : ∀ bs s, ((bs.length - s.at_ : Nat) : Int) ≤ limN bs s) (hT : ∀ bs s, ((bs.length - s.at_ : Nat) : Int) ≤ vF bs s) (hM : ∀ bs s, min 3 ((bs.length - s.at_ : Nat) : Int) ≤ limM bs s) (hX : ∀ bs s, ((bs.length - s.at_ : Nat) : Int) ≤ vE bs s)
include BE hN hT hM hX
omit hN hM in
theorem As (bs:Bs):(∃s,Ci pd limN vF limM vE bs=(s,0)∧aW s=true∧bs=jK s)∨Ci pd limN vF limM vE bs=(gh,5):=by
 unfold Ci;simp only
 split
 ·exact .inr rfl
 ·rename_i r6;simp only[not_or,Bool.not_eq_false] at r6;obtain⟨h1,h2⟩:=r6;refine .inl ⟨_,rfl,h2,?_⟩;have h1:=Classical.not_not.1 h1;rw[mj] at h1;obtain⟨g5,g6⟩:=h1;clear h2;have lw:∀{α:Type} {f:Rd→α×Rd} {n:Nat} {q:Rd} {out:List α},(bO f n q out).2.bad=false→q.bad=false:=fun {α f n q out} h=>by
   cases hq:q.bad with
   |false=>rfl
   |true=>rw[dL _ _ _ _ hq,hq] at h;cases h
  have g4:=lw g5;have g3:=iT g4;have g2:=lw g3;have g1:=iT g2;obtain⟨a1,a2,a3⟩:=(oB (bz 1 1000000000) 2000).canon bs 0 (Nat.zero_le _) g1
  try simp only at a1 a2 a3
  rw[List.drop_zero] at a3;generalize eu bs 2000 (aI bs 1 1000000000) ⟨0,false⟩=d at *;obtain⟨ds,⟨q1,b1⟩⟩:=d;simp only at *;subst g1;obtain⟨⟨c1,c2,c3⟩,c4,c5⟩:=(bz 0 (limN bs ⟨q1,false⟩)).canon bs q1 a2 g2
  try simp only at c1 c2 c3 c4 c5
  generalize aI bs 0 (limN bs ⟨q1,false⟩) ⟨q1,false⟩=n at *;obtain⟨n,⟨q2,b2⟩⟩:=n;simp only at *;subst g2;obtain⟨l,k1,k2,k3,k4,k5⟩:=gL (xC hT BE) bs n.toNat q2 [] c4 g3;rw[nil_append] at k3;generalize bO (jP (vF bs) pd bs) n.toNat ⟨q2,false⟩ []=t at *;obtain⟨ts,⟨q3,b3⟩⟩:=t;simp only at *;subst g3;subst k3;obtain⟨⟨d1,d2,d3⟩,d4,d5⟩:=(bz 0 (limM bs ⟨q3,false⟩)).canon bs q3 k4 g4
  try simp only at d1 d2 d3 d4 d5
  generalize aI bs 0 (limM bs ⟨q3,false⟩) ⟨q3,false⟩=m at *;obtain⟨m,⟨q4,b4⟩⟩:=m;simp only at *;subst g4;obtain⟨l2,m1,m2,m3,m4,m5⟩:=gL (Cy hX) bs m.toNat q4 [] d4 g5;rw[nil_append] at m3;generalize bO (DR (vE bs) bs) m.toNat ⟨q4,false⟩ []=c at *;obtain⟨cs,⟨q5,b5⟩⟩:=c;simp only at *;subst m3;have e1:((ts.length:Nat):Int)=n:=by omega
  have e2:((cs.length:Nat):Int)=m:=by omega
  have e3:bs.drop q5=[]:=List.drop_eq_nil_of_le (by omega);rw[e3,append_nil] at m5;unfold jK cM;simp only;rw[e1,e2,←m5,←d5,←k5,←c5];exact a3
theorem ve {s:Sg}(hv:aW s=true)(h1:∀t∈s.aJ,yH pd t)(h2:∀c∈s.az,Mb c)(h3:gB.qV 2000 (OW 1 1000000000) s.aw)(h4:o3 s.aJ.length)(h5:s.az.length≤3):Ci pd limN vF limM vE (jK s)=(s,0):=by
 obtain⟨ds,ts,cs⟩:=s;simp only at h1 h2 h3 h4 h5;generalize BX:jK ⟨ds,ts,cs⟩=bs;have DO:bs.drop 0=(enc ds.length++ds.flatMap enc)++(enc ts.length++(ts.flatMap fY++(enc cs.length++cs.flatMap l7))):=by rw[List.drop_zero,←BX];rfl
 have r1:eu bs 2000 (aI bs 1 1000000000) ⟨0,false⟩=_:=(oB (bz 1 1000000000) 2000).round bs 0 _ ds h3 DO
 try simp only at r1
 generalize ZK:0+(enc (ds.length:Int)++ds.flatMap enc).length=p1 at r1;have Pe:bs.drop p1=enc ts.length++(ts.flatMap fY++(enc cs.length++cs.flatMap l7)):=by rw[←ZK,←drop_drop,DO,drop_left]
 have kE:∀t∈ts,0<(fY t).length:=fun t ht=>by
  unfold fY;rw[length_append];have:=ie (h1 t ht).1.2.2;omega
 have TN:∀c∈cs,0<(l7 c).length:=fun c hc=>by
  unfold l7;rw[length_append];have:=ie (h2 c hc).1.2.2;omega
 have mY:(ts.length:Int)≤limN bs ⟨p1,false⟩:=by
  refine Int.le_trans ?_ (hN bs _);have e1:=congrArg List.length Pe;rw[length_drop,length_append,length_append] at e1;have e2:=ia (e:=fY) kE;simp only;omega
 have r2:aI bs 0 (limN bs ⟨p1,false⟩) ⟨p1,false⟩=_:=(bz 0 _).round bs p1 _ (ts.length:Int) ⟨by omega,mY,h4⟩ Pe;generalize hp2:p1+(enc (ts.length:Int)).length=p2 at r2;have jc:bs.drop p2=ts.flatMap fY++(enc cs.length++cs.flatMap l7):=by rw[←hp2,←drop_drop,Pe,drop_left]
 have r3:=kQ (xC hT BE) bs ts p2 _ [] h1 jc;generalize hp3:p2+(ts.flatMap fY).length=p3 at r3;have HI:bs.drop p3=enc cs.length++(cs.flatMap l7++[]):=by rw[←hp3,←drop_drop,jc,drop_left,append_nil]
 have jQ:(cs.length:Int)≤limM bs ⟨p3,false⟩:=by
  refine Int.le_trans ?_ (hM bs _);have e1:=congrArg List.length HI;rw[length_drop,length_append,length_append] at e1;have e2:=ia (e:=l7) TN;simp only;omega
 have r4:aI bs 0 (limM bs ⟨p3,false⟩) ⟨p3,false⟩=_:=(bz 0 _).round bs p3 _ (cs.length:Int) ⟨by omega,jQ,by constructor<;>omega⟩ HI;generalize hp4:p3+(enc (cs.length:Int)).length=p4 at r4;have hd4:bs.drop p4=cs.flatMap l7++[]:=by rw[←hp4,←drop_drop,HI,drop_left]
 have r5:=kQ (Cy hX) bs cs p4 _ [] h2 hd4;have pe:¬p4+(cs.flatMap l7).length<bs.length:=by
  have e1:=congrArg List.length hd4;rw[length_drop,append_nil] at e1;omega
 unfold Ci;simp only;rw[r1];simp only;rw[r2];simp only[Int.toNat_natCast];rw[r3];simp only[nil_append];rw[r4];simp only[Int.toNat_natCast];rw[r5];simp only[nil_append];rw[if_neg];rintro (h|h)
 ·exact h (mj.2 ⟨rfl,pe⟩)
 ·rw[hv] at h;cases h
end
end Go.Proofs.YtneohapkboaplaaGreat
