/- segment.Build (layer 39): what is gathered in its maps; one word. segment.Build (layer 39): one word. segment.Build (layer 39): the words of a zone, the zones of a document. segment.Build (layer 39): one number.
  Conditions: lengths below 400 or 1000, as each theorem says. -/
import Derived.Test.YtoejlmpbebjemaaGreatGC
import Derived.Test.YtoejlmpbebjemaaGreatGSR
import Derived.Test.YtoejlmpbebjemaaGreatAmC
import Derived.Test.YtoejlmpbebjemaaGreatAmA
set_option linter.all false
set_option maxRecDepth 100000
set_option maxHeartbeats 16000000
namespace Seg
open Go Go.Am
structure En where
 k:Ky
 ini:List (Ps×Tag)
 d:Int
 at_:List Int
 tk:Nat
 i:Nat
 cap:Nat
 rest:List AV
def En.n (e:En):Nat:=e.ini.length+1
def En.pl (e:En):List Ps:=e.ini.map (·.1)++[(e.d,e.at_)]
abbrev pwC (x:Ps×Tag):List AV:=[.int .i64 x.1.1,.sl x.1.2.length (ints x.1.2) x.2]
def pwAV (l:List (Ps×Tag)):List AV:=l.flatMap pwC
theorem pw_rows:CellsK pwC 2:=fun _=>rfl
theorem pwAV_len (l:List (Ps×Tag)):(pwAV l).length=l.length*2:=rows_len pw_rows l
def lastC (d:Int)(at_:List Int)(tg:Tag):List AV:=[.int .i64 d,.sl at_.length (ints at_) tg]
def boxC (ini:List (Ps×Tag))(d:Int)(at_:List Int)(tg:Tag)(rest:List AV):Blk:=.cells (pwAV ini++(lastC d at_ tg++rest))
def En.blk (e:En):Blk:=boxC e.ini e.d e.at_ (.own e.tk) e.rest
def keyM (k:Ky):MKey:=.agg [.int .i64 k.1,.str k.2]
theorem keyM_inj {a b:Ky}:keyM a=keyM b↔a=b:=by
 obtain⟨a1,a2⟩:=a;obtain⟨b1,b2⟩:=b;simp[keyM]
def esOf (E:List En):List (MKey×AV):=E.map fun e=>(keyM e.k,.csl e.i e.n e.cap)
def entS (E:List En):List (Nat×Blk):=E.map fun e=>(e.i,e.blk)
def entT (E:List En):List (Nat×(Nat×Nat)):=E.map fun e=>(e.tk,(e.at_.length,1))
structure EnOk (nb tb N:Nat)(e:En):Prop where
 r:e.rest.length=(e.cap-e.n)*2
 c:e.n≤e.cap
 n:e.n≤N
 a:e.at_.length≤N
 i:nb≤e.i
 t:tb≤e.tk
def lkE (E:List En)(k:Ky):List Ps:=match E.find? (fun e=>e.k==k) with
 |some e=>e.pl
 |none=>[]
def addP (l:List Ps)(d p:Int):List Ps:=match l.getLast? with
 |some q=>if q.1=d then l.dropLast++[(q.1,q.2++[p])] else l++[(d,[p])]
 |none=>[(d,[p])]
theorem addP_snoc (l:List Ps)(d0:Int)(a:List Int)(d p:Int):addP (l++[(d0,a)]) d p=if d0=d then l++[(d0,a++[p])] else (l++[(d0,a)])++[(d,[p])]:=by
 simp[addP]
structure StepE (E:List En)(k:Ky)(d p:Int)(E':List En):Prop where
 lk:∀k',lkE E' k'=if k'=k then addP (lkE E k) d p else lkE E k'
 nd:(E'.map (·.k)).Nodup
 ks:∀k',k'∈E'.map (·.k)↔k'=k∨k'∈E.map (·.k)
theorem find_mid {E1 E2:List En}{e:En}(h:((E1++e::E2).map (·.k)).Nodup)(k:Ky):(E1++e::E2).find? (fun x=>x.k==k)=if k=e.k then some e else (E1++E2).find? (fun x=>x.k==k):=by
 have h1:∀x∈E1,x.k≠e.k:=fun x hx=>by
  rw[List.map_append,List.nodup_append] at h;exact h.2.2 x.k (List.mem_map.2 ⟨x,hx,rfl⟩) e.k (by simp)
 rw[List.find?_append,List.find?_cons,List.find?_append]
 by_cases hk:k=e.k
 ·subst hk;have:E1.find? (fun x=>x.k==e.k)=none:=by
   rw[List.find?_eq_none];intro x hx;simpa using h1 x hx
  rw[this];simp
 ·rw[if_neg hk,beq_eq_false_iff_ne.2 (Ne.symm hk)]
theorem StepE.old {E1 E2:List En}{e e':En}{d p:Int}(h:((E1++e::E2).map (·.k)).Nodup)(hk:e'.k=e.k)(hp:e'.pl=addP e.pl d p):StepE (E1++e::E2) e.k d p (E1++e'::E2):=by
 have h':((E1++e'::E2).map (·.k)).Nodup:=by
  rw[List.map_append,List.map_cons,hk];rwa [List.map_append,List.map_cons] at h
 refine⟨fun k'=>?_,h',fun k'=>?_⟩
 ·unfold lkE;rw[find_mid h',find_mid h,find_mid h,hk]
  by_cases hh:k'=e.k
  ·subst hh;simp[hp]
  ·simp only[if_neg hh]
 ·simp only[List.map_append,List.map_cons,hk,List.mem_append,List.mem_cons]
  constructor
  ·exact .inr
  ·rintro (rfl|hh)
   ·exact .inr (.inl rfl)
   ·exact hh
theorem StepE.add {E:List En}{e':En}{d p:Int}(h:(E.map (·.k)).Nodup)(hk:e'.k∉E.map (·.k))(hp:e'.pl=[(d,[p])]):StepE E e'.k d p (E++[e']):=by
 have h':((E++e'::[]).map (·.k)).Nodup:=by
  rw[List.map_append,List.nodup_append];exact⟨h,by simp,fun a ha b hb=>by simp at hb;rintro rfl;rw[hb] at ha;exact hk ha⟩
 have hn:E.find? (fun x=>x.k==e'.k)=none:=by
  rw[List.find?_eq_none];intro x hx;have:x.k≠e'.k:=fun ee=>hk (List.mem_map.2 ⟨x,hx,ee⟩);simpa using this
 refine⟨fun k'=>?_,h',fun k'=>?_⟩
 ·unfold lkE;rw[find_mid h']
  by_cases hh:k'=e'.k
  ·subst hh;rw[hn];simp[hp,addP]
  ·simp only[if_neg hh,List.append_nil]
 ·simp[or_comm]
end Seg
namespace Go.Proofs.YtoejlmpbebjemaaGreat
open Go Go.Am Sug Seg
theorem nodup_map {α β:Type}{f:α→β}(hf:∀a b,f a=f b→a=b){l:List α}(h:l.Nodup):(l.map f).Nodup:=by
 rw[List.Nodup,List.pairwise_map];exact h.imp fun hab he=>hab (hf _ _ he)
theorem esOf_keys (E:List En):(esOf E).map (·.1)=(E.map (·.k)).map keyM:=by simp[esOf,Function.comp_def]
theorem esOf_get {E1 E2:List En}{e:En}(h:((E1++e::E2).map (·.k)).Nodup):mget (esOf (E1++e::E2)) (keyM e.k)=some (.csl e.i e.n e.cap):=by
 have hn:((esOf (E1++e::E2)).map (·.1)).Nodup:=by
  rw[esOf_keys];exact nodup_map (fun a b hab=>keyM_inj.1 hab) h
 have hj:E1.length<(esOf (E1++e::E2)).length:=by simp[esOf]
 have he:(esOf (E1++e::E2))[E1.length]'hj=(keyM e.k,.csl e.i e.n e.cap):=by simp[esOf]
 rw[mget_at hn hj (by rw[he]),he]
theorem esOf_put {E1 E2:List En}{e:En}(h:((E1++e::E2).map (·.k)).Nodup)(e':En)(hk:e'.k=e.k):mput (esOf (E1++e::E2)) (keyM e.k) (.csl e'.i e'.n e'.cap)=esOf (E1++e'::E2):=by
 have hn:((esOf (E1++e::E2)).map (·.1)).Nodup:=by
  rw[esOf_keys];exact nodup_map (fun a b hab=>keyM_inj.1 hab) h
 have hj:E1.length<(esOf (E1++e::E2)).length:=by simp[esOf]
 have he:(esOf (E1++e::E2))[E1.length]'hj=(keyM e.k,.csl e.i e.n e.cap):=by simp[esOf]
 rw[mput_at hn hj (by rw[he])];simp[esOf,hk]
theorem esOf_none {E:List En}{k:Ky}(h:k∉E.map (·.k)):∀x∈esOf E,x.1≠keyM k:=by
 intro x hx;obtain⟨e,he,rfl⟩:=List.mem_map.1 hx;exact fun hh=>h (List.mem_map.2 ⟨e,he,keyM_inj.1 hh⟩)
theorem esOf_add {E:List En}(e':En)(h:e'.k∉E.map (·.k)):mput (esOf E) (keyM e'.k) (.csl e'.i e'.n e'.cap)=esOf (E++[e']):=by
 rw[mput_none (esOf_none h)];simp[esOf]
theorem below_esOf {E:List En}{n t:Nat}(h:∀e∈E,e.i<n):BelowAll n t ((esOf E).map (·.2)):=by
 intro v hv;simp only[esOf,List.map_map,List.mem_map,Function.comp] at hv;obtain⟨e,he,rfl⟩:=hv;exact .csl _ _ _ (h e he)
theorem fitK (k:Ky)(hk:-9223372036854775808≤k.1∧k.1≤9223372036854775807)(hs:k.2.length≤maxLen):fitsB Tryz.prog 193 (keyM k)=true:=by
 have hu:=Tryz.underlying193;have h3:Tryz.prog.underlying 3=some (.int .i64):=by kernel_rfl
 have h9:Tryz.prog.underlying 9=some .string:=by kernel_rfl
 have c3:Tryz.prog.cellsOf 3=1:=by kernel_rfl
 have c9:Tryz.prog.cellsOf 9=1:=by kernel_rfl
 have hkt:Tryz.prog.keyType 193=true:=by kernel_rfl
 have hsz:Tryz.prog.types.size=315:=by kernel_rfl
 have hwf:(Lit.int .i64 k.1).wf=true:=by
  simp only[Lit.wf,Bool.and_eq_true,decide_eq_true_eq];exact hk
 have e1:Tryz.prog.keyLits 315 3 [.int .i64 k.1]=some [.int .i64 k.1]:=by
  show Tryz.prog.keyLits (314+1) 3 _=_;unfold Program.keyLits;rw[h3];simp only[hwf,and_self,if_true]
 have e2:Tryz.prog.keyLits 315 9 [.string ⟨k.2.toArray⟩]=some [.string k.2]:=by
  show Tryz.prog.keyLits (314+1) 9 _=_;unfold Program.keyLits;rw[h9];have:(⟨k.2.toArray⟩:ByteArray).size≤maxLen:=by
   show k.2.toArray.size≤maxLen;simpa using hs
  simp only[this,if_true]
 have hl:Tryz.prog.keyLits (315+1) 193 [.int .i64 k.1,.string ⟨k.2.toArray⟩]=some [.int .i64 k.1,.string k.2]:=by
  unfold Program.keyLits;rw[hu];simp[cells193,c3,c9,e1,e2]
 unfold fitsB keyOf;rw[hu];have hf:(MKey.val (keyM k)).formed Tryz.prog 193=true:=by
  simp[keyM,MKey.val,KC.val,Value.formed,hu,cells193]
 simp only[hkt,hf,Bool.and_self,if_true,hsz];have:(MKey.val (keyM k)).cells.toList=[.int .i64 k.1,.string ⟨k.2.toArray⟩]:=rfl;rw[this,hl];rfl
end Go.Proofs.YtoejlmpbebjemaaGreat
namespace Go.Am
def Pre {α:Type}(H K:List α):Prop:=∃X,K=H++X
section
variable {α : Type} {H K : List α}
theorem Pre.app (h:Pre H K)(X:List α):Pre H (K++X):=by
 obtain⟨Y,rfl⟩:=h;exact⟨Y++X,by rw[List.append_assoc]⟩
theorem Pre.set (h:Pre H K){i:Nat}(hi:H.length≤i)(x:α):Pre H (K.set i x):=by
 obtain⟨Y,rfl⟩:=h;exact⟨Y.set (i-H.length) x,by rw[List.set_append_right _ _ hi]⟩
theorem at_of {i:Nat}{b:α}(g:K[i]?=some b):∀h:i<K.length,K[i]'h=b:=fun h=>by rw[List.getElem?_eq_getElem h] at g;exact Option.some.inj g
theorem Pre.le (h:Pre H K):H.length≤K.length:=by
 obtain⟨Y,rfl⟩:=h;simp
end
end Go.Am
namespace Go.Proofs.YtoejlmpbebjemaaGreat
open Go Go.Am Sug Seg
theorem box_at (ini:List (Ps×Tag))(d:Int)(at_:List Int)(tg:Tag)(rest:List AV):(pwAV ini++(lastC d at_ tg++rest)).getD (ini.length*2) .top=.int .i64 d∧(pwAV ini++(lastC d at_ tg++rest)).getD (ini.length*2+1) .top=.sl at_.length (ints at_) tg:=by
 have h:=pwAV_len ini
 constructor
 ·rw[List.getD_eq_getElem?_getD,List.getElem?_append_right (by omega),h,Nat.sub_self];rfl
 ·rw[List.getD_eq_getElem?_getD,List.getElem?_append_right (by omega),h,show ini.length*2+1-ini.length*2=1 by omega];rfl
theorem box_set (ini:List (Ps×Tag))(d:Int)(at_ at':List Int)(tg tg':Tag)(rest:List AV):(pwAV ini++(lastC d at_ tg++rest)).set (ini.length*2+1) (.sl at'.length (ints at') tg')=pwAV ini++(lastC d at' tg'++rest):=by
 have h:=pwAV_len ini;rw[List.set_append_right _ _ (by omega),h,show ini.length*2+1-ini.length*2=1 by omega];rfl
theorem pwAV_snoc (ini:List (Ps×Tag))(d:Int)(at_:List Int)(tg:Tag):pwAV ini++lastC d at_ tg=pwAV (ini++[((d,at_),tg)]):=by simp[pwAV,lastC]
attribute [-simp] List.getD_eq_getElem?_getD in
theorem word_end (H:List Blk)(T:Toks)(nb tb N:Nat)(hnb:nb≤H.length)(htb:tb≤T.length)(L:List Dc)(zs:List Zn)(ws:List Wd)(vi vj vk b2 b4 b5 b6 b8 b10 p12 p13:Nat)(id f:Int)(s:Bs)(p:Int)(E1 E2:List En)(es:List (MKey×AV))(J:List Blk)(U:Toks)(R:List (Nat×Blk))(RT:List (Nat×(Nat×Nat)))
  (i cap:Nat) (ini:List (Ps×Tag)) (rest:List AV) (atv:List Int) (tg:Tag)
  (hJ:Has J (R++(b5,.map es)::(entS E1++(i,boxC ini id atv tg rest)::entS E2)))
  (hU:(atv=[]∧tg=.full∧Has U (RT++(entT E1++entT E2)))∨∃tk,tg=.own tk∧Has U (RT++(entT E1++(tk,(atv.length,1))::entT E2))∧T.length≤tk)
  (hE:∀e,e∈E1∨e∈E2→EnOk H.length T.length (N+1) e) (hN:N≤1099511627776) (hr:rest.length=(cap-(ini.length+1))*2) (hcap:ini.length+1≤cap) (hn:ini.length≤N) (ha:atv.length≤N) (hi:H.length≤i)
  (hput:mput es (keyM (f,s)) (.csl i (ini.length+1) cap)=esOf (E1++⟨(f,s),ini,id,atv++[p],0,i,cap,rest⟩::E2)) (hft:keysFit Tryz.prog 193 es=true)
  (E:List En) (hstep:∀e'':En,e''.k=(f,s)→e''.pl=ini.map (·.1)++[(id,atv++[p])]→StepE E (f,s) id p (E1++e''::E2))
  (h12:(p12,.cells [.str s,.int .i64 p])∈R) (h13:(p13,.cells [.int .i64 f,.str s])∈R) (hb5:H.length≤b5) (hl2:b2<J.length) (hl4:b4<J.length) (hl6:b6<J.length) (hl8:b8<J.length) (hl10:b10<J.length)
  (hf:-9223372036854775808≤f∧f≤9223372036854775807) (hs:s.length≤maxLen) (hPJ:Pre H J) (hPU:Pre T U) (HO:HOk J U) (Q:Exit→St→Prop)
  (go:∀(e:Env)(J':List Blk)(U':Toks)(E':List En),Has J' (R++(b5,.map (esOf E'))::entS E')→Has U' (RT++entT E')→(∀e∈E',EnOk H.length T.length (N+1) e)→keysFit Tryz.prog 193 (esOf E')=true→StepE E (f,s) id p E'→Pre H J'→Pre T U'→J.length≤J'.length→U.length≤U'.length→HOk J' U'→
   envLe J'.length U'.length e [(0,.sl L.length (dcAV L) .none),(2,.ptr b2 0),(4,.ptr b4 0),(5,.mref b5),(6,.mref b6),(8,.ptr b8 0),(10,.ptr b10 0),(34,.sl L.length (dcAV L) .none),(35,.int .i64 (L.length:Nat)),(36,.int .i64 (vi:Nat)),(63,.sl zs.length (znAV zs) .none),(64,.int .i64 (zs.length:Nat)),(65,.int .i64 (vj:Nat)),(70,.sl ws.length (wdAV ws) .none),(71,.int .i64 (ws.length:Nat)),(72,.int .i64 (vk:Nat))]→Q .normal ⟨e,J',U'⟩) :
  AW ⟨Tryz.prog,192,152,nb,tb,[100104,100147,100166]⟩ (subC [1,1,1,1,1,1,1,1,0,1,0,0,1,1,0,0,1,1,1,0,1,0,0,1,1,0,0,1,1,0,0,1,1,0,0,1,1,1,1] (Tryz.f68.body.getD .skip)) Q ⟨[(14,.csl i (ini.length+1) cap),(12,.ptr p12 0),(13,.ptr p13 0),(0,.sl L.length (dcAV L) .none),(2,.ptr b2 0),(4,.ptr b4 0),(5,.mref b5),(6,.mref b6),(8,.ptr b8 0),(10,.ptr b10 0),(34,.sl L.length (dcAV L) .none),(35,.int .i64 (L.length:Nat)),(36,.int .i64 (vi:Nat)),(63,.sl zs.length (znAV zs) .none),(64,.int .i64 (zs.length:Nat)),(65,.int .i64 (vj:Nat)),(70,.sl ws.length (wdAV ws) .none),(71,.int .i64 (ws.length:Nat)),(72,.int .i64 (vk:Nat))],J,U⟩:=by
 conv=>arg 2;whnf
 have gi:=hJ.get (i:=i) (b:=boxC ini id atv tg rest) (by simp);have g5:=hJ.get (i:=b5) (b:=.map es) (by simp);have g12:=hJ.get (List.mem_append_left _ h12);have g13:=hJ.get (List.mem_append_left _ h13);have li:=(List.getElem?_eq_some_iff.1 gi).1;have l5:=(List.getElem?_eq_some_iff.1 g5).1;have l12:=(List.getElem?_eq_some_iff.1 g12).1;have l13:=(List.getElem?_eq_some_iff.1 g13).1;have lH:=hPJ.le;have lT:=hPU.le;have ei:=at_of gi;have e5:=at_of g5;have e12:=at_of g12;have e13:=at_of g13;have hfk:=fitK (f,s) hf hs;have hkey:keyM (f,s)=.agg [.int .i64 f,.str s]:=rfl;rw[hkey] at hfk;rw[hkey] at hput;obtain⟨hb1,hb2⟩:=box_at ini id atv tg rest;have hbl:(pwAV ini++(lastC id atv tg++rest)).length=ini.length*2+(2+rest.length):=by rw[List.length_append,pwAV_len,List.length_append];rfl
 unfold boxC at ei;have hbs:=fun at' tg'=>box_set ini id atv at' tg tg' rest;refine aw_draw [14,17] [0,0,0,0,0,0,0,0,0,0,0,0,0,0,0,1,1,1] [[0,1,2,3],[]] drawMixed (by kernel_rfl) (by kernel_rfl) fun K hK=>?_;have fin:∀(e':Env)(U':Toks)(tk':Nat),Has U' (RT++(entT E1++(tk',((atv++[p]).length,1))::entT E2))→T.length≤tk'→Pre T U'→U.length≤U'.length→
   envLe J.length U'.length e' [(14,.csl i (ini.length+1) cap),(13,.ptr p13 0),(0,.sl L.length (dcAV L) .none),(2,.ptr b2 0),(4,.ptr b4 0),(5,.mref b5),(6,.mref b6),(8,.ptr b8 0),(10,.ptr b10 0),(34,.sl L.length (dcAV L) .none),(35,.int .i64 (L.length:Nat)),(36,.int .i64 (vi:Nat)),(63,.sl zs.length (znAV zs) .none),(64,.int .i64 (zs.length:Nat)),(65,.int .i64 (vj:Nat)),(70,.sl ws.length (wdAV ws) .none),(71,.int .i64 (ws.length:Nat)),(72,.int .i64 (vk:Nat))]→K ⟨e',J.set i (.cells (pwAV ini++(lastC id (atv++[p]) (.own tk')++rest))),U'⟩:=by
  intro e' U' tk' hU' htk' hPU' hUl he';have hJ2:Has (J.set i (boxC ini id (atv++[p]) (.own tk') rest)) (R++(b5,.map es)::(entS E1++(i,boxC ini id (atv++[p]) (.own tk') rest)::entS E2)):=by
   have:=Has.set (A:=R++(b5,.map es)::entS E1) (B:=entS E2) (by simpa using hJ) (boxC ini id (atv++[p]) (.own tk') rest);simpa using this
  have hP2:Pre H (J.set i (boxC ini id (atv++[p]) (.own tk') rest)):=hPJ.set hi _;have hl:(J.set i (boxC ini id (atv++[p]) (.own tk') rest)).length=J.length:=by simp
  rw[show Blk.cells (pwAV ini++(lastC id (atv++[p]) (.own tk')++rest))=boxC ini id (atv++[p]) (.own tk') rest from rfl];generalize J.set i (boxC ini id (atv++[p]) (.own tk') rest)=J2 at *;refine hK _ (aw_hok fun HO2=>aw_weak ⟨[(14,.csl i (ini.length+1) cap),(13,.ptr p13 0),(0,.sl L.length (dcAV L) .none),(2,.ptr b2 0),(4,.ptr b4 0),(5,.mref b5),(6,.mref b6),(8,.ptr b8 0),(10,.ptr b10 0),(34,.sl L.length (dcAV L) .none),(35,.int .i64 (L.length:Nat)),(36,.int .i64 (vi:Nat)),(63,.sl zs.length (znAV zs) .none),(64,.int .i64 (zs.length:Nat)),(65,.int .i64 (vj:Nat)),(70,.sl ws.length (wdAV ws) .none),(71,.int .i64 (ws.length:Nat)),(72,.int .i64 (vk:Nat))],J2,U'⟩ (weak_to [] [] (by simp) (by simp) (by show nb≤_;omega) (by show tb≤_;omega) HO2 (by rw[hl];exact he')) ?_);simp only at HO2;have g5:=hJ2.get (i:=b5) (b:=.map es) (by simp);have g13:=hJ2.get (List.mem_append_left _ h13);have l5:=(List.getElem?_eq_some_iff.1 g5).1;have l13:=(List.getElem?_eq_some_iff.1 g13).1;have e5:=at_of g5;have e13:=at_of g13;clear g5 g13 ei e12 gi;refine aw_hok fun HO3=>?_;obtain⟨ee,hee⟩:∃ee:En,ee=⟨(f,s),ini,id,atv++[p],tk',i,cap,rest⟩:=⟨_,rfl⟩
  have hes:esOf (E1++⟨(f,s),ini,id,atv++[p],0,i,cap,rest⟩::E2)=esOf (E1++ee::E2):=by rw[hee];simp[esOf,En.n]
  rw[hes] at hput;have hft':keysFit Tryz.prog 193 (esOf (E1++ee::E2))=true:=by rw[←hput];exact keysFit_put hft hfk
  have hS:entS (E1++ee::E2)=entS E1++(i,boxC ini id (atv++[p]) (.own tk') rest)::entS E2:=by rw[hee];simp[entS,En.blk]
  have hT:entT (E1++ee::E2)=entT E1++(tk',((atv++[p]).length,1))::entT E2:=by rw[hee];simp[entT]
  rw[←hS] at hJ2;rw[←hT] at hU';refine aw_reg0 fun K hK=>?_;simp(disch:=omega)[mapT191,e5,e13,hfk,hft,hput];apply hK;clear hK K;have hJ3:=hJ2.set (.map (esOf (E1++ee::E2)));have hb:∀e∈E1++ee::E2,e.i<J2.length:=fun e he=>hJ2.lt (b:=e.blk) (by simp only[List.mem_append,List.mem_cons];exact .inr (.inr (List.mem_map.2 ⟨e,he,rfl⟩)));refine go _ _ _ (E1++ee::E2) hJ3 hU' (fun e he=>?_) hft' (hstep ee (by rw[hee]) (by rw[hee];rfl)) (hP2.set hb5 _) hPU' (by simp;omega) hUl (HO2.setMap (below_esOf hb)) ?_
  ·rcases List.mem_append.1 he with he|he
   ·exact hE e (.inl he)
   ·rcases List.mem_cons.1 he with rfl|he
    ·rw[hee];exact⟨hr,hcap,by show ini.length+1≤_;omega,by show (atv++[p]).length≤_;simp;omega,hi,htk'⟩
    ·exact hE e (.inr he)
  ·simp;omega
 rcases hU with⟨rfl,rfl,hU⟩|⟨tk,rfl,hU,htk⟩
 ·have hset1:(pwAV ini++(lastC id [] .full++rest)).set (ini.length*2+1) (.sl 1 [.int .i64 p] (.own U.length))=pwAV ini++(lastC id ([]++[p]) (.own U.length)++rest):=hbs [p] _;simp(disch:=omega)[ei,e12,hb1,hb2,hbl];rw[hset1];refine fin _ _ U.length ?_ lT (hPU.app _) (by simp) ?_
  ·refine(hU.new (1,1)).perm ?_;simp only[List.append_assoc];exact((List.perm_append_singleton _ _).symm.append_left _).append_left _
  ·simp;omega
 ·have hset1:(pwAV ini++(lastC id atv (.own tk)++rest)).set (ini.length*2+1) (.sl (atv.length+1) (ints atv++[.int .i64 p]) (.own tk))=pwAV ini++(lastC id (atv++[p]) (.own tk)++rest):=by
   rw[ints_snoc];have:=hbs (atv++[p]) (.own tk)
   rwa [List.length_append] at this
  have gU:=hU.get (i:=tk) (b:=(atv.length,1)) (by simp);have lU:=(List.getElem?_eq_some_iff.1 gU).1;have eU:=at_of gU;simp(disch:=omega)[ei,e12,hb1,hb2,hbl,eU];rw[hset1];refine fin _ _ tk ?_ htk (hPU.set htk _) (by simp) ?_
  ·have:=Has.set (A:=RT++entT E1) (B:=entT E2) (by simpa using hU) (atv.length+1,1);simpa using this
  ·simp;omega
theorem word_tail (H : List Blk) (T : Toks) (nb tb N : Nat) (hnb : nb ≤ H.length) (htb : tb ≤ T.length) (L : List Dc) (zs : List Zn) (ws : List Wd) (vi vj vk b2 b4 b5 b6 b8 b10 p12 p13 : Nat) (id f : Int) (s : Bs) (p : Int) (zv nv : AV) (E : List En) (J : List Blk) (U : Toks) (R : List (Nat × Blk)) (RT : List (Nat × (Nat × Nat)))
    (hJ : Has J (R ++ (b5, .map (esOf E)) :: entS E)) (hU : Has U (RT ++ entT E)) (hE : ∀ e ∈ E, EnOk H.length T.length N e) (hN : N ≤ 1099511627776) (hnd : (E.map (·.k)).Nodup) (hft : keysFit Tryz.prog 193 (esOf E) = true)
    (h8 : (b8, .cells [.int .i64 id, zv, nv]) ∈ R) (h12 : (p12, .cells [.str s, .int .i64 p]) ∈ R) (h13 : (p13, .cells [.int .i64 f, .str s]) ∈ R) (hb5 : H.length ≤ b5) (hl2 : b2 < J.length) (hl4 : b4 < J.length) (hl6 : b6 < J.length) (hl10 : b10 < J.length)
    (hf : -9223372036854775808 ≤ f ∧ f ≤ 9223372036854775807) (hs : s.length ≤ maxLen) (hPJ : Pre H J) (hPU : Pre T U) (Q : Exit → St → Prop)
    (go : ∀ (e : Env) (J' : List Blk) (U' : Toks) (E' : List En), Has J' (R ++ (b5, .map (esOf E')) :: entS E') → Has U' (RT ++ entT E') → (∀ e ∈ E', EnOk H.length T.length (N + 1) e) → keysFit Tryz.prog 193 (esOf E') = true → StepE E (f, s) id p E' → Pre H J' → Pre T U' → J.length ≤ J'.length → U.length ≤ U'.length → HOk J' U' →
      envLe J'.length U'.length e [(0, .sl L.length (dcAV L) .none), (2, .ptr b2 0), (4, .ptr b4 0), (5, .mref b5), (6, .mref b6), (8, .ptr b8 0), (10, .ptr b10 0), (34, .sl L.length (dcAV L) .none), (35, .int .i64 (L.length : Nat)), (36, .int .i64 (vi : Nat)), (63, .sl zs.length (znAV zs) .none), (64, .int .i64 (zs.length : Nat)), (65, .int .i64 (vj : Nat)), (70, .sl ws.length (wdAV ws) .none), (71, .int .i64 (ws.length : Nat)), (72, .int .i64 (vk : Nat))] → Q .normal ⟨e, J', U'⟩) :
    AW ⟨Tryz.prog, 192, 152, nb, tb, [100104, 100147, 100166]⟩ (subC [1, 1, 1, 1, 1, 1, 1, 1, 0, 1, 0, 0, 1, 1, 0, 0, 1, 1, 1, 0, 1, 0, 0, 1, 1, 0, 0, 1, 1, 0, 0, 1, 1, 0, 0, 1, 1] (Tryz.f68.body.getD .skip)) Q ⟨[(12, .ptr p12 0), (13, .ptr p13 0), (0, .sl L.length (dcAV L) .none), (2, .ptr b2 0), (4, .ptr b4 0), (5, .mref b5), (6, .mref b6), (8, .ptr b8 0), (10, .ptr b10 0), (34, .sl L.length (dcAV L) .none), (35, .int .i64 (L.length : Nat)), (36, .int .i64 (vi : Nat)), (63, .sl zs.length (znAV zs) .none), (64, .int .i64 (zs.length : Nat)), (65, .int .i64 (vj : Nat)), (70, .sl ws.length (wdAV ws) .none), (71, .int .i64 (ws.length : Nat)), (72, .int .i64 (vk : Nat))], J, U⟩ := by
  conv => arg 2; whnf
  have g5 := hJ.get (i := b5) (b := .map (esOf E)) (by simp);have g8 := hJ.get (List.mem_append_left _ h8);have g12 := hJ.get (List.mem_append_left _ h12);have g13 := hJ.get (List.mem_append_left _ h13);have l5 := (List.getElem?_eq_some_iff.1 g5).1;have l8 := (List.getElem?_eq_some_iff.1 g8).1;have l12 := (List.getElem?_eq_some_iff.1 g12).1;have l13 := (List.getElem?_eq_some_iff.1 g13).1;have lH := hPJ.le;have lT := hPU.le;have e5 := at_of g5;have e8 := at_of g8;have e12 := at_of g12;have e13 := at_of g13;have hfk := fitK (f, s) hf hs;have hkey : keyM (f, s) = .agg [.int .i64 f, .str s] := rfl;rw [hkey] at hfk;refine aw_hok fun HO => ?_;simp only at HO
  by_cases hex : (f, s) ∈ E.map (·.k)
  rotate_left
  · have hlook : lookV (esOf E) (.agg [.int .i64 f, .str s]) (.sl 0 [] .full) false = .sl 0 [] .full := by
      unfold lookV;rw [← hkey, mget_none (esOf_none hex)];rfl
    refine aw_reg fun K hK => ?_; simp (maxSteps := 1000000) (disch := omega) [-List.getD_eq_getElem?_getD, mapT191, zeroV191, hfk, hft, e5, e13, hlook]; refine hK _ ?_; clear hK K;refine aw_then fun K1 hK1 => ?_;refine aw_draw [] [] [] drawMixed (by kernel_rfl) (by kernel_rfl) fun K hK => ?_; simp (maxSteps := 1000000) (disch := omega) [-List.getD_eq_getElem?_getD];refine hK _ ?_; clear hK K;refine aw_if rfl (fun h => ?_) (fun h => absurd h (by simp));refine aw_reg0 fun K hK => ?_; simp (maxSteps := 1000000) (disch := omega) [-List.getD_eq_getElem?_getD, e8];intro nc hnc;refine hK _ ?_; clear hK K;refine hK1 _ ?_; clear hK1;have hbx : Blk.cells (.int .i64 id :: .sl 0 [] .full :: List.replicate ((nc - 1) * 2) .top) = boxC [] id [] .full (List.replicate ((nc - 1) * 2) .top) := rfl;rw [hbx];have hJ2 := hJ.new (boxC [] id [] .full (List.replicate ((nc - 1) * 2) .top));have hP2 := hPJ.app [boxC [] id [] .full (List.replicate ((nc - 1) * 2) .top)];have hl2' : (J ++ [boxC [] id [] .full (List.replicate ((nc - 1) * 2) .top)]).length = J.length + 1 := by simp
    obtain ⟨i, hi⟩ : ∃ i, i = J.length := ⟨_, rfl⟩
    rw [← hi] at hJ2;simp only [← hi];generalize J ++ [boxC [] id [] .full (List.replicate ((nc - 1) * 2) .top)] = J2 at *;refine aw_hok fun HO2 => ?_;simp only at HO2;refine aw_weak ⟨[(14, .csl i (([] : List (Ps × Tag)).length + 1) nc), (12, .ptr p12 0), (13, .ptr p13 0), (0, .sl L.length (dcAV L) .none), (2, .ptr b2 0), (4, .ptr b4 0), (5, .mref b5), (6, .mref b6), (8, .ptr b8 0), (10, .ptr b10 0), (34, .sl L.length (dcAV L) .none), (35, .int .i64 (L.length : Nat)), (36, .int .i64 (vi : Nat)), (63, .sl zs.length (znAV zs) .none), (64, .int .i64 (zs.length : Nat)), (65, .int .i64 (vj : Nat)), (70, .sl ws.length (wdAV ws) .none), (71, .int .i64 (ws.length : Nat)), (72, .int .i64 (vk : Nat))], J2, U⟩ (weak_to [] [] (by simp) (by simp) (by show nb ≤ _; omega) (by show tb ≤ _; omega) HO2 (by simp; omega)) ?_;have hnd' : ((E ++ [(⟨(f, s), [], id, [p], 0, i, nc, []⟩ : En)]).map (·.k)).Nodup := by
      rw [List.map_append, List.nodup_append];exact ⟨hnd, by simp, fun a ha b hb => by simp at hb; rintro rfl; rw [hb] at ha; exact hex ha⟩
    exact word_end H T nb tb N hnb htb L zs ws vi vj vk b2 b4 b5 b6 b8 b10 p12 p13 id f s p E [] (esOf E) J2 U R RT i nc [] (List.replicate ((nc - 1) * 2) .top) [] .full (by simpa [entS] using hJ2) (.inl ⟨rfl, rfl, by simpa [entT] using hU⟩)
      (fun e he => by
        rcases he with he | he
        · have := hE e he; exact ⟨this.r, this.c, Nat.le_succ_of_le this.n, Nat.le_succ_of_le this.a, this.i, this.t⟩
        · simp at he) hN (by simp) hnc (Nat.zero_le _) (Nat.zero_le _) (by omega) (esOf_add ⟨(f, s), [], id, [] ++ [p], 0, i, nc, List.replicate ((nc - 1) * 2) .top⟩ hex) hft E
      (fun e'' hk hp => by have := StepE.add (e' := e'') (d := id) (p := p) hnd (by rw [hk]; exact hex) (by rw [hp]; rfl); rwa [hk] at this)
      h12 h13 hb5 (by omega) (by omega) (by omega) (by omega) (by omega) hf hs hP2 hPU HO2 Q (fun e J' U' E' a1 a2 a3 a4 a5 a6 a7 a8 => go e J' U' E' a1 a2 a3 a4 a5 a6 a7 (by omega))
  · obtain ⟨e, heE, hek⟩ := List.mem_map.1 hex;obtain ⟨E1, E2, rfl⟩ := List.append_of_mem heE;obtain ⟨k0, ini, d, at_, tk, i, cap, rest⟩ := e;simp only at hek;subst hek;have hok := hE _ heE;have hE' : ∀ e, e ∈ E1 ∨ e ∈ E2 → EnOk H.length T.length (N + 1) e := fun e he => by
      have := hE e (by rcases he with he | he <;> simp [he]); exact ⟨this.r, this.c, Nat.le_succ_of_le this.n, Nat.le_succ_of_le this.a, this.i, this.t⟩
    obtain ⟨q1, q2, q3, q4, q5, q6⟩ := hok;simp only [En.n] at q1 q2 q3 q4 q5 q6;have hJb : Has J (R ++ (b5, .map (esOf (E1 ++ ⟨(f, s), ini, d, at_, tk, i, cap, rest⟩ :: E2))) :: (entS E1 ++ (i, boxC ini d at_ (.own tk) rest) :: entS E2)) := by simpa [entS, En.blk] using hJ
    have hUb : Has U (RT ++ (entT E1 ++ (tk, (at_.length, 1)) :: entT E2)) := by simpa [entT] using hU
    have gi := hJb.get (i := i) (b := boxC ini d at_ (.own tk) rest) (by simp);have li := (List.getElem?_eq_some_iff.1 gi).1;have ei := at_of gi;unfold boxC at ei gi;obtain ⟨hb1, hb2⟩ := box_at ini d at_ (.own tk) rest;have hbl : (pwAV ini ++ (lastC d at_ (.own tk) ++ rest)).length = ini.length * 2 + (2 + rest.length) := by rw [List.length_append, pwAV_len, List.length_append]; rfl
    have hget := esOf_get hnd;simp only [En.n] at hget;have hlook : lookV (esOf (E1 ++ ⟨(f, s), ini, d, at_, tk, i, cap, rest⟩ :: E2)) (.agg [.int .i64 f, .str s]) (.sl 0 [] .full) false = .csl i (ini.length + 1) cap := by
      unfold lookV;rw [← hkey, hget];rfl
    have hput0 := fun e' hk => esOf_put hnd e' hk;have hold := fun e' p' hk hp => StepE.old (d := id) (p := p') hnd (e' := e') hk hp;simp only at hput0 hold;generalize hEE : esOf (E1 ++ ⟨(f, s), ini, d, at_, tk, i, cap, rest⟩ :: E2) = es at *;refine aw_reg fun K hK => ?_; simp (maxSteps := 1000000) (disch := omega) [-List.getD_eq_getElem?_getD, mapT191, zeroV191, hfk, hft, e5, e13, hlook]; refine hK _ ?_; clear hK K;refine aw_then fun K1 hK1 => ?_;have bn : (((ini.length : Int) + 1) == 0) = false := beq_eq_false_iff_ne.2 (by omega);have bn' : ¬ ((ini.length : Int) + 1) = 0 := by omega
    by_cases hd : d = id
    · subst hd;have bd : (d != d) = false := by simp
      refine aw_draw [] [] [] drawMixed (by kernel_rfl) (by kernel_rfl) fun K hK => ?_; simp (maxSteps := 1000000) (disch := omega) [-List.getD_eq_getElem?_getD, bn, bn', ei, e8, hb1, hbl, bd];refine hK _ ?_; clear hK K;refine aw_if rfl (fun h => absurd h (by simp)) (fun h => ?_);apply aw_skip; simp (maxSteps := 1000000) (disch := omega) [-List.getD_eq_getElem?_getD];refine hK1 _ ?_; clear hK1;refine aw_weak ⟨[(14, .csl i (ini.length + 1) cap), (12, .ptr p12 0), (13, .ptr p13 0), (0, .sl L.length (dcAV L) .none), (2, .ptr b2 0), (4, .ptr b4 0), (5, .mref b5), (6, .mref b6), (8, .ptr b8 0), (10, .ptr b10 0), (34, .sl L.length (dcAV L) .none), (35, .int .i64 (L.length : Nat)), (36, .int .i64 (vi : Nat)), (63, .sl zs.length (znAV zs) .none), (64, .int .i64 (zs.length : Nat)), (65, .int .i64 (vj : Nat)), (70, .sl ws.length (wdAV ws) .none), (71, .int .i64 (ws.length : Nat)), (72, .int .i64 (vk : Nat))], J, U⟩ (weak_to [] [] (by simp) (by simp) (by show nb ≤ _; omega) (by show tb ≤ _; omega) HO (by simp; omega)) ?_;refine word_end H T nb tb N hnb htb L zs ws vi vj vk b2 b4 b5 b6 b8 b10 p12 p13 d f s p E1 E2 es J U R RT i cap ini rest at_ (.own tk) hJb (.inr ⟨tk, rfl, hUb, q6⟩)
        hE' hN q1 q2 (by omega) q4 q5 (hput0 ⟨(f, s), ini, d, at_ ++ [p], 0, i, cap, rest⟩ rfl) hft _
        (fun e'' hk hp => ?_)
        h12 h13 hb5 hl2 hl4 hl6 l8 hl10 hf hs hPJ hPU HO Q go
      exact hold e'' p hk (by rw [hp]; show _ = addP (ini.map (·.1) ++ [(d, at_)]) d p; rw [addP_snoc, if_pos rfl])
    · have bd : (d != id) = true := by simpa using hd
      have hU0 : Has U (RT ++ (entT E1 ++ entT E2)) := hUb.sub (List.Sublist.append_left (List.Sublist.append_left (List.sublist_cons_self _ _) _) _);have hstep : ∀ e'' : En, e''.k = (f, s) → e''.pl = (ini ++ [((d, at_), Tag.own tk)]).map (·.1) ++ [(id, [] ++ [p])] → StepE (E1 ++ ⟨(f, s), ini, d, at_, tk, i, cap, rest⟩ :: E2) (f, s) id p (E1 ++ e'' :: E2) := fun e'' hk hp =>
        hold e'' p hk (by rw [hp]; show _ = addP (ini.map (·.1) ++ [(d, at_)]) id p; rw [addP_snoc, if_neg hd]; simp)
      have hend := fun (J2 : List Blk) (i2 cap2 : Nat) (rest2 : List AV) (hl : J.length ≤ J2.length) (hJ2 : Has J2 (R ++ (b5, .map es) :: (entS E1 ++ (i2, boxC (ini ++ [((d, at_), Tag.own tk)]) id [] .full rest2) :: entS E2))) (HO2 : HOk J2 U) (hP2 : Pre H J2) (hr2 : rest2.length = (cap2 - (ini.length + 2)) * 2) (hc2 : ini.length + 2 ≤ cap2) (hi2 : H.length ≤ i2) =>
        word_end H T nb tb N hnb htb L zs ws vi vj vk b2 b4 b5 b6 b8 b10 p12 p13 id f s p E1 E2 es J2 U R RT i2 cap2 (ini ++ [((d, at_), Tag.own tk)]) rest2 [] .full hJ2 (.inl ⟨rfl, rfl, hU0⟩)
          hE' hN (by rw [hr2]; simp) (by simpa using hc2) (by simp; omega) (Nat.zero_le _) hi2 (by have := hput0 ⟨(f, s), ini ++ [((d, at_), Tag.own tk)], id, [] ++ [p], 0, i2, cap2, rest2⟩ rfl; exact this) hft _ hstep
          h12 h13 hb5 (by omega) (by omega) (by omega) (by omega) (by omega) hf hs hP2 hPU HO2 Q (fun e J' U' E' a1 a2 a3 a4 a5 a6 a7 a8 => go e J' U' E' a1 a2 a3 a4 a5 a6 a7 (by omega))
      have htk : (pwAV ini ++ (lastC d at_ (.own tk) ++ rest)).take ((ini.length + 1) * 2) = pwAV (ini ++ [((d, at_), Tag.own tk)]) := by
        rw [← List.append_assoc, pwAV_snoc, List.take_left' (by rw [pwAV_len]; simp)]
      have hdr : (pwAV ini ++ (lastC d at_ (.own tk) ++ rest)).drop ((ini.length + 1 + 1) * 2) = rest.drop 2 := by
        rw [← List.append_assoc, pwAV_snoc, List.drop_append, List.drop_of_length_le (by rw [pwAV_len, List.length_append, List.length_singleton]; omega), List.nil_append, pwAV_len]
        congr 1; simp; omega
      refine aw_draw [] [] [] drawMixed (by kernel_rfl) (by kernel_rfl) fun K hK => ?_; simp (maxSteps := 1000000) (disch := omega) [-List.getD_eq_getElem?_getD, bn, bn', ei, e8, hb1, hbl, bd];refine hK _ ?_; clear hK K;refine aw_if rfl (fun h => ?_) (fun h => absurd h (by simp));refine aw_reg0 fun K hK => ?_; simp (maxSteps := 1000000) (disch := omega) [-List.getD_eq_getElem?_getD, e8];refine ⟨140, _, [.int .i64 id, .sl 0 [] .full], 1, by kernel_rfl, gi, by rw [hbl, cells140]; omega, by simp, by simp; omega, by omega, by kernel_rfl, by simp, fun hle => ?_, fun nc hlt hnc => ?_⟩
      · simp only [cells140, htk, hdr];rw [show Blk.cells (pwAV (ini ++ [((d, at_), Tag.own tk)]) ++ [.int .i64 id, .sl 0 [] .full] ++ rest.drop 2) = boxC (ini ++ [((d, at_), Tag.own tk)]) id [] .full (rest.drop 2) by rw [List.append_assoc]; rfl];have hJ2 : Has (J.set i (boxC (ini ++ [((d, at_), Tag.own tk)]) id [] .full (rest.drop 2))) (R ++ (b5, .map es) :: (entS E1 ++ (i, boxC (ini ++ [((d, at_), Tag.own tk)]) id [] .full (rest.drop 2)) :: entS E2)) := by
          have := Has.set (A := R ++ (b5, .map es) :: entS E1) (B := entS E2) (by simpa using hJb) (boxC (ini ++ [((d, at_), Tag.own tk)]) id [] .full (rest.drop 2));simpa using this
        have hP2 := hPJ.set q5 (boxC (ini ++ [((d, at_), Tag.own tk)]) id [] .full (rest.drop 2));have hl : J.length = (J.set i (boxC (ini ++ [((d, at_), Tag.own tk)]) id [] .full (rest.drop 2))).length := by simp
        generalize J.set i (boxC (ini ++ [((d, at_), Tag.own tk)]) id [] .full (rest.drop 2)) = J2 at *;simp (maxSteps := 1000000) (disch := omega) [-List.getD_eq_getElem?_getD];refine hK _ ?_; clear hK K;refine hK1 _ ?_; clear hK1;refine aw_hok fun HO2 => ?_;simp only at HO2;refine aw_weak ⟨[(14, .csl i ((ini ++ [((d, at_), Tag.own tk)]).length + 1) cap), (12, .ptr p12 0), (13, .ptr p13 0), (0, .sl L.length (dcAV L) .none), (2, .ptr b2 0), (4, .ptr b4 0), (5, .mref b5), (6, .mref b6), (8, .ptr b8 0), (10, .ptr b10 0), (34, .sl L.length (dcAV L) .none), (35, .int .i64 (L.length : Nat)), (36, .int .i64 (vi : Nat)), (63, .sl zs.length (znAV zs) .none), (64, .int .i64 (zs.length : Nat)), (65, .int .i64 (vj : Nat)), (70, .sl ws.length (wdAV ws) .none), (71, .int .i64 (ws.length : Nat)), (72, .int .i64 (vk : Nat))], J2, U⟩ (weak_to [] [] (by simp) (by simp) (by show nb ≤ _; omega) (by show tb ≤ _; omega) HO2 (by simp; omega)) ?_;exact hend J2 i cap (rest.drop 2) (by omega) hJ2 HO2 hP2 (by rw [List.length_drop]; omega) (by omega) q5
      · simp only [cells140, htk];obtain ⟨r2, hr2⟩ : ∃ r2, r2 = List.replicate ((nc - (ini.length + 1 + 1)) * 2) AV.top := ⟨_, rfl⟩
        have hr2l : r2.length = (nc - (ini.length + 2)) * 2 := by rw [hr2]; simp
        rw [← hr2];rw [show Blk.cells (pwAV (ini ++ [((d, at_), Tag.own tk)]) ++ [.int .i64 id, .sl 0 [] .full] ++ r2) = boxC (ini ++ [((d, at_), Tag.own tk)]) id [] .full r2 by rw [List.append_assoc]; rfl];have hJ2 : Has (J ++ [boxC (ini ++ [((d, at_), Tag.own tk)]) id [] .full r2]) (R ++ (b5, .map es) :: (entS E1 ++ (J.length, boxC (ini ++ [((d, at_), Tag.own tk)]) id [] .full r2) :: entS E2)) := by
          have h0 : Has J (R ++ (b5, .map es) :: (entS E1 ++ entS E2)) := hJb.sub (List.Sublist.append_left (List.Sublist.cons_cons _ (List.Sublist.append_left (List.sublist_cons_self _ _) _)) _);refine (h0.new _).perm ?_;simp only [List.append_assoc, List.cons_append];exact (((List.perm_append_singleton _ _).symm.append_left _).cons _).append_left _
        have hP2 := hPJ.app [boxC (ini ++ [((d, at_), Tag.own tk)]) id [] .full r2];have hl2' : (J ++ [boxC (ini ++ [((d, at_), Tag.own tk)]) id [] .full r2]).length = J.length + 1 := by simp
        obtain ⟨i2, hi2⟩ : ∃ i, i = J.length := ⟨_, rfl⟩
        rw [← hi2] at hJ2;simp only [← hi2];generalize J ++ [boxC (ini ++ [((d, at_), Tag.own tk)]) id [] .full r2] = J2 at *;simp (maxSteps := 1000000) (disch := omega) [-List.getD_eq_getElem?_getD];refine hK _ ?_; clear hK K;refine hK1 _ ?_; clear hK1;refine aw_hok fun HO2 => ?_;simp only at HO2;refine aw_weak ⟨[(14, .csl i2 ((ini ++ [((d, at_), Tag.own tk)]).length + 1) nc), (12, .ptr p12 0), (13, .ptr p13 0), (0, .sl L.length (dcAV L) .none), (2, .ptr b2 0), (4, .ptr b4 0), (5, .mref b5), (6, .mref b6), (8, .ptr b8 0), (10, .ptr b10 0), (34, .sl L.length (dcAV L) .none), (35, .int .i64 (L.length : Nat)), (36, .int .i64 (vi : Nat)), (63, .sl zs.length (znAV zs) .none), (64, .int .i64 (zs.length : Nat)), (65, .int .i64 (vj : Nat)), (70, .sl ws.length (wdAV ws) .none), (71, .int .i64 (ws.length : Nat)), (72, .int .i64 (vk : Nat))], J2, U⟩ (weak_to [] [] (by simp) (by simp) (by show nb ≤ _; omega) (by show tb ≤ _; omega) HO2 (by simp; omega)) ?_;exact hend J2 i2 nc r2 (by omega) hJ2 HO2 hP2 hr2l (by omega) (by omega)
end Go.Proofs.YtoejlmpbebjemaaGreat
namespace Seg
open Go Go.Am
inductive RunE (id:Int):List En→List (Ky×Int)→List En→Prop
 |nil (E:List En):RunE id E [] E
 |snoc {E E1 E2:List En} {l:List (Ky×Int)} {k:Ky} {p:Int} (h:RunE id E l E1) (h2:StepE E1 k id p E2):RunE id E (l++[(k,p)]) E2
theorem RunE.trans {id:Int}{E E1 E2:List En}{l m:List (Ky×Int)}(h:RunE id E l E1)(k:RunE id E1 m E2):RunE id E (l++m) E2:=by
 induction k with
 |nil=>simpa using h
 |snoc _ h2 ih=>rw[←List.append_assoc];exact ih.snoc h2
def zwds (f:Int)(ws:List Wd):List (Ky×Int):=ws.map fun w=>((f,w.1),w.2)
def dwds (zs:List Zn):List (Ky×Int):=zs.flatMap fun z=>zwds z.f z.ws
theorem zwds_take (f:Int)(ws:List Wd)(k:Nat)(h:k<ws.length):zwds f (ws.take k)++[((f,(ws.getD k w0).1),(ws.getD k w0).2)]=zwds f (ws.take (k+1)):=by
 rw[take_getD ws k w0 h];simp[zwds]
theorem dwds_take (zs:List Zn)(k:Nat)(h:k<zs.length):dwds (zs.take k)++zwds (zs.getD k z0).f (zs.getD k z0).ws=dwds (zs.take (k+1)):=by
 rw[take_getD zs k z0 h];simp[dwds]
end Seg
namespace Go.Proofs.YtoejlmpbebjemaaGreat
open Go Go.Am Sug Seg
structure BI (H:List Blk)(T:Toks)(R:List (Nat×Blk))(RT:List (Nat×(Nat×Nat)))(b5 N:Nat)(J:List Blk)(U:Toks)(E:List En):Prop where
 hJ:Has J (R++(b5,.map (esOf E))::entS E)
 hU:Has U (RT++entT E)
 hE:∀e∈E,EnOk H.length T.length N e
 nd:(E.map (·.k)).Nodup
 ft:keysFit Tryz.prog 193 (esOf E)=true
 pJ:Pre H J
 pU:Pre T U
 ok:HOk J U
theorem BI.more {H:List Blk}{T:Toks}{R:List (Nat×Blk)}{RT:List (Nat×(Nat×Nat))}{b5 N:Nat}{J:List Blk}{U:Toks}{E:List En}(h:BI H T R RT b5 N J U E){M:Nat}(hm:N≤M):BI H T R RT b5 M J U E:=
 ⟨h.hJ,h.hU,fun e he=>have q:=h.hE e he;⟨q.r,q.c,Nat.le_trans q.n hm,Nat.le_trans q.a hm,q.i,q.t⟩,h.nd,h.ft,h.pJ,h.pU,h.ok⟩
theorem BI.sub {H:List Blk}{T:Toks}{R R':List (Nat×Blk)}{RT:List (Nat×(Nat×Nat))}{b5 N:Nat}{J:List Blk}{U:Toks}{E:List En}(h:BI H T R RT b5 N J U E)(hs:R'.Sublist R):BI H T R' RT b5 N J U E:=
 ⟨h.hJ.sub (hs.append_right _),h.hU,h.hE,h.nd,h.ft,h.pJ,h.pU,h.ok⟩
theorem BI.new {H:List Blk}{T:Toks}{R:List (Nat×Blk)}{RT:List (Nat×(Nat×Nat))}{b5 N:Nat}{J:List Blk}{U:Toks}{E:List En}(h:BI H T R RT b5 N J U E)(b:Blk)(ho:HOk (J++[b]) U):BI H T ((J.length,b)::R) RT b5 N (J++[b]) U E:=by
 refine⟨?_,h.hU,h.hE,h.nd,h.ft,h.pJ.app _,h.pU,ho⟩;exact(h.hJ.new b).perm (List.perm_append_singleton _ _).symm
theorem word_step (H:List Blk)(T:Toks)(nb tb N:Nat)(hnb:nb≤H.length)(htb:tb≤T.length)(L:List Dc)(zs:List Zn)(ws:List Wd)(vi vj vk b2 b4 b5 b6 b8 b10:Nat)(id f:Int)(zv nv wv:AV)(E:List En)(J:List Blk)(U:Toks)(R:List (Nat×Blk))(RT:List (Nat×(Nat×Nat)))
  (hB:BI H T R RT b5 N J U E) (hN:N≤1099511627776) (hk:vk<ws.length) (hkl:ws.length≤1099511627776)
  (h8:(b8,.cells [.int .i64 id,zv,nv])∈R) (h10:(b10,.cells [.int .i64 f,wv])∈R) (hb5:H.length≤b5) (hl2:b2<J.length) (hl4:b4<J.length) (hl6:b6<J.length)
  (hf:-9223372036854775808≤f∧f≤9223372036854775807) (hs:(ws.getD vk w0).1.length≤maxLen) (Q:Exit→St→Prop)
  (go:∀(e:Env)(J':List Blk)(U':Toks)(E':List En),BI H T R RT b5 (N+1) J' U' E'→StepE E (f,(ws.getD vk w0).1) id (ws.getD vk w0).2 E'→J.length≤J'.length→envLe J'.length U'.length e [(0,.sl L.length (dcAV L) .none),(2,.ptr b2 0),(4,.ptr b4 0),(5,.mref b5),(6,.mref b6),(8,.ptr b8 0),(10,.ptr b10 0),(34,.sl L.length (dcAV L) .none),(35,.int .i64 (L.length:Nat)),(36,.int .i64 (vi:Nat)),(63,.sl zs.length (znAV zs) .none),(64,.int .i64 (zs.length:Nat)),(65,.int .i64 (vj:Nat)),(70,.sl ws.length (wdAV ws) .none),(71,.int .i64 (ws.length:Nat)),(72,.int .i64 (vk:Nat))]→Q .normal ⟨e,J',U'⟩) :
  AW ⟨Tryz.prog,192,152,nb,tb,[100104,100147,100166]⟩ (subC [1,1,1,1,1,1,1,1,0,1,0,0,1,1,0,0,1,1,1,0,1,0,0,1,1,0,0,1,1,0,0,1,1,0,0] (Tryz.f68.body.getD .skip)) Q ⟨[(0,.sl L.length (dcAV L) .none),(2,.ptr b2 0),(4,.ptr b4 0),(5,.mref b5),(6,.mref b6),(8,.ptr b8 0),(10,.ptr b10 0),(34,.sl L.length (dcAV L) .none),(35,.int .i64 (L.length:Nat)),(36,.int .i64 (vi:Nat)),(63,.sl zs.length (znAV zs) .none),(64,.int .i64 (zs.length:Nat)),(65,.int .i64 (vj:Nat)),(70,.sl ws.length (wdAV ws) .none),(71,.int .i64 (ws.length:Nat)),(72,.int .i64 (vk:Nat))],J,U⟩:=by
 conv=>arg 2;whnf
 have g10:=hB.hJ.get (List.mem_append_left _ h10);have g8:=hB.hJ.get (List.mem_append_left _ h8);have l10:=(List.getElem?_eq_some_iff.1 g10).1;have l8:=(List.getElem?_eq_some_iff.1 g8).1;have l5:=hB.hJ.lt (i:=b5) (b:=.map (esOf E)) (by simp);have e10:=at_of g10;have lH:=hB.pJ.le;have lT:=hB.pU.le;have hcut:=wdAV_cut ws vk hk;have HO:=hB.ok;generalize ws.getD vk w0=x at *;obtain⟨s,p⟩:=x;simp only at hcut hs go;refine aw_reg fun K hK=>?_;simp(disch:=omega)[-List.getD_eq_getElem?_getD,hcut,wdAV_len];apply hK;clear hK K;refine aw_reg fun K hK=>?_;simp(disch:=omega)[-List.getD_eq_getElem?_getD,e10,List.getElem?_append_left,List.getElem_append_left];apply hK;clear hK K;have ho1:HOk (J++[.cells [.str s,.int .i64 p]]) U:=HO.snoc (by simp);have ho2:HOk ((J++[.cells [.str s,.int .i64 p]])++[.cells [.int .i64 f,.str s]]) U:=ho1.snoc (by simp);have hB2:=(hB.new (.cells [.str s,.int .i64 p]) ho1).new (.cells [.int .i64 f,.str s]) ho2;have hll:((J++[Blk.cells [.str s,.int .i64 p]])++[Blk.cells [.int .i64 f,.str s]]).length=J.length+2:=by simp
 rw[show (J++[Blk.cells [.str s,.int .i64 p]]).length=J.length+1 by simp] at hB2;have hap:J++[Blk.cells [.str s,.int .i64 p],Blk.cells [.int .i64 f,.str s]]=(J++[Blk.cells [.str s,.int .i64 p]])++[Blk.cells [.int .i64 f,.str s]]:=by simp
 rw[hap];obtain⟨p12,h12⟩:∃i,i=J.length:=⟨_,rfl⟩
 obtain⟨p13,h13⟩:∃i,i=J.length+1:=⟨_,rfl⟩
 rw[←h13,←h12] at hB2;simp only[←h13,←h12];generalize (J++[Blk.cells [.str s,.int .i64 p]])++[Blk.cells [.int .i64 f,.str s]]=J2 at *;refine aw_weak ⟨[(12,.ptr p12 0),(13,.ptr p13 0),(0,.sl L.length (dcAV L) .none),(2,.ptr b2 0),(4,.ptr b4 0),(5,.mref b5),(6,.mref b6),(8,.ptr b8 0),(10,.ptr b10 0),(34,.sl L.length (dcAV L) .none),(35,.int .i64 (L.length:Nat)),(36,.int .i64 (vi:Nat)),(63,.sl zs.length (znAV zs) .none),(64,.int .i64 (zs.length:Nat)),(65,.int .i64 (vj:Nat)),(70,.sl ws.length (wdAV ws) .none),(71,.int .i64 (ws.length:Nat)),(72,.int .i64 (vk:Nat))],J2,U⟩ (weak_to [] [] (by simp) (by simp) (by show nb≤_;omega) (by show tb≤_;omega) hB2.ok (by simp;omega)) ?_;exact word_tail H T nb tb N hnb htb L zs ws vi vj vk b2 b4 b5 b6 b8 b10 p12 p13 id f s p zv nv E J2 U _ RT hB2.hJ hB2.hU hB2.hE hN hB2.nd hB2.ft (by simp[h8]) (by simp) (by simp) hb5 (by omega) (by omega) (by omega) (by omega) hf hs hB2.pJ hB2.pU Q
  (fun e J' U' E' a1 a2 a3 a4 a5 a6 a7 a8 a9 a10 a11=>go e J' U' E' (BI.sub ⟨a1,a2,a3,a5.nd,a4,a6,a7,a10⟩ (by simp)) a5 (by omega) a11)
attribute [-simp] List.getD_eq_getElem?_getD in
theorem zone_step (H:List Blk)(T:Toks)(nb tb N:Nat)(hnb:nb≤H.length)(htb:tb≤T.length)(L:List Dc)(zs:List Zn)(vi vj b2 b4 b5 b6 b8:Nat)(id:Int)(zv nv:AV)(E:List En)(J:List Blk)(U:Toks)(R:List (Nat×Blk))(RT:List (Nat×(Nat×Nat)))
  (hB:BI H T R RT b5 N J U E) (hk:vj<zs.length) (hN:N+(zs.getD vj z0).ws.length≤1099511627776)
  (h8:(b8,.cells [.int .i64 id,zv,nv])∈R) (hb5:H.length≤b5) (hl2:b2<J.length) (hl4:b4<J.length) (hl6:b6<J.length)
  (hf:-9223372036854775808≤(zs.getD vj z0).f∧(zs.getD vj z0).f≤9223372036854775807) (hs:∀w∈(zs.getD vj z0).ws,w.1.length≤maxLen) (Q:Exit→St→Prop)
  (go:∀(e:Env)(J':List Blk)(U':Toks)(E':List En),BI H T R RT b5 (N+(zs.getD vj z0).ws.length) J' U' E'→RunE id E (zwds (zs.getD vj z0).f (zs.getD vj z0).ws) E'→J.length≤J'.length→envLe J'.length U'.length e [(0,.sl L.length (dcAV L) .none),(2,.ptr b2 0),(4,.ptr b4 0),(5,.mref b5),(6,.mref b6),(8,.ptr b8 0),(34,.sl L.length (dcAV L) .none),(35,.int .i64 (L.length:Nat)),(36,.int .i64 (vi:Nat)),(63,.sl zs.length (znAV zs) .none),(64,.int .i64 (zs.length:Nat)),(65,.int .i64 (vj:Nat))]→Q .normal ⟨e,J',U'⟩) :
  AW ⟨Tryz.prog,192,152,nb,tb,[100104,100147,100166]⟩ (subC [1,1,1,1,1,1,1,1,0,1,0,0,1,1,0,0,1,1,1,0,1,0,0,1,1,0,0] (Tryz.f68.body.getD .skip)) Q ⟨[(0,.sl L.length (dcAV L) .none),(2,.ptr b2 0),(4,.ptr b4 0),(5,.mref b5),(6,.mref b6),(8,.ptr b8 0),(34,.sl L.length (dcAV L) .none),(35,.int .i64 (L.length:Nat)),(36,.int .i64 (vi:Nat)),(63,.sl zs.length (znAV zs) .none),(64,.int .i64 (zs.length:Nat)),(65,.int .i64 (vj:Nat))],J,U⟩:=by
 conv=>arg 2;whnf
 have l8:=hB.hJ.lt (List.mem_append_left _ h8);have l5:=hB.hJ.lt (i:=b5) (b:=.map (esOf E)) (by simp);have lH:=hB.pJ.le;have lT:=hB.pU.le;have hcut:=znAV_cut zs vj hk;have HO:=hB.ok;generalize zs.getD vj z0=z at *;obtain⟨f,ws⟩:=z;simp only at hcut hs hf hN go;refine aw_reg fun K hK=>?_;simp(disch:=omega)[hcut,znAV_len];apply hK;clear hK K;apply aw_reg;intro K h;simp(disch:=omega);apply h;clear h K;have ho1:HOk (J++[.cells [.int .i64 f,.sl ws.length (wdAV ws) .none]]) U:=HO.snoc (by simp);have hB2:=hB.new _ ho1;have hll:(J++[Blk.cells [.int .i64 f,.sl ws.length (wdAV ws) .none]]).length=J.length+1:=by simp
 obtain⟨b10,h10⟩:∃i,i=J.length:=⟨_,rfl⟩
 rw[←h10] at hB2;simp only[←h10];generalize J++[Blk.cells [.int .i64 f,.sl ws.length (wdAV ws) .none]]=J1 at *;apply aw_block;refine aw_loop (X:=Nat×List Blk×Toks×List En) (fun x=>⟨[(0,.sl L.length (dcAV L) .none),(2,.ptr b2 0),(4,.ptr b4 0),(5,.mref b5),(6,.mref b6),(8,.ptr b8 0),(10,.ptr b10 0),(34,.sl L.length (dcAV L) .none),(35,.int .i64 (L.length:Nat)),(36,.int .i64 (vi:Nat)),(63,.sl zs.length (znAV zs) .none),(64,.int .i64 (zs.length:Nat)),(65,.int .i64 (vj:Nat)),(70,.sl ws.length (wdAV ws) .none),(71,.int .i64 (ws.length:Nat)),(72,.int .i64 (x.1:Nat))],x.2.1,x.2.2.1⟩)
  (fun x=>x.1≤ws.length∧BI H T ((b10,.cells [.int .i64 f,.sl ws.length (wdAV ws) .none])::R) RT b5 (N+x.1) x.2.1 x.2.2.1 x.2.2.2∧RunE id E (zwds f (ws.take x.1)) x.2.2.2∧J1.length≤x.2.1.length) (fun x=>ws.length-x.1) (0,J1,U,E) ?_ ?_ ?_
 ·exact⟨Nat.zero_le _,hB2,.nil E,Nat.le_refl _⟩
 ·refine weak_to [] [] ?_ ?_ ?_ ?_ hB2.ok ?_
  all_goals simp
  all_goals omega
 ·rintro⟨k,J2,U2,E2⟩ ⟨k1,k2,k3,k4⟩;simp only at k1 k2 k3 k4;have lH2:=k2.pJ.le;have lT2:=k2.pU.le;apply aw_reg;intro K h;simp(disch:=omega);apply h;clear h K;refine aw_then fun K2 hK2=>?_;refine aw_if rfl (fun hk5=>?_) (fun hk5=>?_)
  ·simp  at hk5;apply aw_skip;simp(disch:=omega) ;apply hK2;clear hK2;refine aw_then fun K3 hK3=>?_;apply aw_block;refine aw_weak ⟨[(0,.sl L.length (dcAV L) .none),(2,.ptr b2 0),(4,.ptr b4 0),(5,.mref b5),(6,.mref b6),(8,.ptr b8 0),(10,.ptr b10 0),(34,.sl L.length (dcAV L) .none),(35,.int .i64 (L.length:Nat)),(36,.int .i64 (vi:Nat)),(63,.sl zs.length (znAV zs) .none),(64,.int .i64 (zs.length:Nat)),(65,.int .i64 (vj:Nat)),(70,.sl ws.length (wdAV ws) .none),(71,.int .i64 (ws.length:Nat)),(72,.int .i64 (k:Nat))],J2,U2⟩ (weak_to [] [] (by simp) (by simp) (by show nb≤_;omega) (by show tb≤_;omega) k2.ok (by simp;omega)) ?_;refine word_step H T nb tb (N+k) hnb htb L zs ws vi vj k b2 b4 b5 b6 b8 b10 id f zv nv (.sl ws.length (wdAV ws) .none) E2 J2 U2 _ RT k2 (by omega) hk5 (by omega) (by simp[h8]) (by simp) hb5 (by omega) (by omega) (by omega) hf (hs _ (getD_mem ws k w0 hk5)) _ fun e J' U' E' a1 a2 a3 a4=>?_;have lH3:=a1.pJ.le;have lT3:=a1.pU.le;refine hK3 _ (aw_weak ⟨[(0,.sl L.length (dcAV L) .none),(2,.ptr b2 0),(4,.ptr b4 0),(5,.mref b5),(6,.mref b6),(8,.ptr b8 0),(10,.ptr b10 0),(34,.sl L.length (dcAV L) .none),(35,.int .i64 (L.length:Nat)),(36,.int .i64 (vi:Nat)),(63,.sl zs.length (znAV zs) .none),(64,.int .i64 (zs.length:Nat)),(65,.int .i64 (vj:Nat)),(70,.sl ws.length (wdAV ws) .none),(71,.int .i64 (ws.length:Nat)),(72,.int .i64 (k:Nat))],J',U'⟩ (weak_to [] [] (by simp) (by simp) (by show nb≤_;omega) (by show tb≤_;omega) a1.ok a4) ?_);clear hK3;refine aw_reg0 fun K hK=>?_;simp(disch:=omega) ;apply hK;clear hK K;refine⟨(k+1,J',U',E'),⟨by show k+1≤_;omega,a1,?_,by show J1.length≤J'.length;omega⟩,by show ws.length-(k+1)<ws.length-k;omega,?_⟩
   ·show RunE id E (zwds f (ws.take (k+1))) E';rw[←zwds_take f ws k hk5];exact k3.snoc a2
   ·refine weak_to [] [] ?_ ?_ ?_ ?_ a1.ok ?_
    all_goals simp
    all_goals omega
  ·simp  at hk5;have hkk:k=ws.length:=by omega
   subst hkk;apply aw_exit;simp(disch:=omega) ;rw[List.take_length] at k3;refine go _ J2 U2 E2 (k2.sub (by simp)) k3 (by omega) ?_;simp;omega
end Go.Proofs.YtoejlmpbebjemaaGreat
namespace Seg
open Go Go.Am
structure Ef where
 f:Int
 x:List Nm
 i:Nat
 cap:Nat
 rest:List AV
end Seg
namespace Go.Proofs.YtoejlmpbebjemaaGreat
open Go Go.Am Sug Seg
def Ef.blk (e:Ef):Blk:=.cells (nmAV e.x++e.rest)
def keyF (f:Int):MKey:=.one (.int .i64 f)
def ecOf (F:List Ef):List (MKey×AV):=F.map fun e=>(keyF e.f,.csl e.i e.x.length e.cap)
def efS (F:List Ef):List (Nat×Blk):=F.map fun e=>(e.i,Ef.blk e)
structure EfOk (nb N:Nat)(e:Ef):Prop where
 r:e.rest.length=(e.cap-e.x.length)*2
 c:e.x.length≤e.cap
 n:e.x.length≤N
 i:nb≤e.i
 p:0<e.x.length
def lkF (F:List Ef)(f:Int):List Nm:=match F.find? (fun e=>e.f==f) with
 |some e=>e.x
 |none=>[]
structure StepF (F:List Ef)(f:Int)(it:Nm)(F':List Ef):Prop where
 lk:∀f',lkF F' f'=if f'=f then lkF F f++[it] else lkF F f'
 nd:(F'.map (·.f)).Nodup
 ks:∀f',f'∈F'.map (·.f)↔f'=f∨f'∈F.map (·.f)
theorem findF_mid {E1 E2:List Ef}{e:Ef}(h:((E1++e::E2).map (·.f)).Nodup)(k:Int):(E1++e::E2).find? (fun x=>x.f==k)=if k=e.f then some e else (E1++E2).find? (fun x=>x.f==k):=by
 have h1:∀x∈E1,x.f≠e.f:=fun x hx=>by
  rw[List.map_append,List.nodup_append] at h;exact h.2.2 x.f (List.mem_map.2 ⟨x,hx,rfl⟩) e.f (by simp)
 rw[List.find?_append,List.find?_cons,List.find?_append]
 by_cases hk:k=e.f
 ·subst hk;have:E1.find? (fun x=>x.f==e.f)=none:=by
   rw[List.find?_eq_none];intro x hx;simpa using h1 x hx
  rw[this];simp
 ·rw[if_neg hk,beq_eq_false_iff_ne.2 (Ne.symm hk)]
theorem StepF.old {E1 E2:List Ef}{e e':Ef}{it:Nm}(h:((E1++e::E2).map (·.f)).Nodup)(hk:e'.f=e.f)(hp:e'.x=e.x++[it]):StepF (E1++e::E2) e.f it (E1++e'::E2):=by
 have h':((E1++e'::E2).map (·.f)).Nodup:=by
  rw[List.map_append,List.map_cons,hk];rwa [List.map_append,List.map_cons] at h
 refine⟨fun k'=>?_,h',fun k'=>?_⟩
 ·unfold lkF;rw[findF_mid h',findF_mid h,findF_mid h,hk]
  by_cases hh:k'=e.f
  ·subst hh;simp[hp]
  ·simp only[if_neg hh]
 ·simp only[List.map_append,List.map_cons,hk,List.mem_append,List.mem_cons]
  constructor
  ·exact .inr
  ·rintro (rfl|hh)
   ·exact .inr (.inl rfl)
   ·exact hh
theorem StepF.add {E:List Ef}{e':Ef}{it:Nm}(h:(E.map (·.f)).Nodup)(hk:e'.f∉E.map (·.f))(hp:e'.x=[it]):StepF E e'.f it (E++[e']):=by
 have h':((E++e'::[]).map (·.f)).Nodup:=by
  rw[List.map_append,List.nodup_append];exact⟨h,by simp,fun a ha b hb=>by simp at hb;rintro rfl;rw[hb] at ha;exact hk ha⟩
 have hn:E.find? (fun x=>x.f==e'.f)=none:=by
  rw[List.find?_eq_none];intro x hx;have:x.f≠e'.f:=fun ee=>hk (List.mem_map.2 ⟨x,hx,ee⟩);simpa using this
 refine⟨fun k'=>?_,h',fun k'=>?_⟩
 ·unfold lkF;rw[findF_mid h']
  by_cases hh:k'=e'.f
  ·subst hh;rw[hn];simp[hp]
  ·simp only[if_neg hh,List.append_nil]
 ·simp[or_comm]
theorem keyF_inj {a b:Int}:keyF a=keyF b↔a=b:=by simp[keyF]
theorem ecOf_keys (F:List Ef):(ecOf F).map (·.1)=(F.map (·.f)).map keyF:=by simp[ecOf,Function.comp_def]
theorem ecOf_get {E1 E2:List Ef}{e:Ef}(h:((E1++e::E2).map (·.f)).Nodup):mget (ecOf (E1++e::E2)) (keyF e.f)=some (.csl e.i e.x.length e.cap):=by
 have hn:((ecOf (E1++e::E2)).map (·.1)).Nodup:=by
  rw[ecOf_keys];exact nodup_map (fun a b hab=>keyF_inj.1 hab) h
 have hj:E1.length<(ecOf (E1++e::E2)).length:=by simp[ecOf]
 have he:(ecOf (E1++e::E2))[E1.length]'hj=(keyF e.f,.csl e.i e.x.length e.cap):=by simp[ecOf]
 rw[mget_at hn hj (by rw[he]),he]
theorem ecOf_put {E1 E2:List Ef}{e:Ef}(h:((E1++e::E2).map (·.f)).Nodup)(e':Ef)(hk:e'.f=e.f):mput (ecOf (E1++e::E2)) (keyF e.f) (.csl e'.i e'.x.length e'.cap)=ecOf (E1++e'::E2):=by
 have hn:((ecOf (E1++e::E2)).map (·.1)).Nodup:=by
  rw[ecOf_keys];exact nodup_map (fun a b hab=>keyF_inj.1 hab) h
 have hj:E1.length<(ecOf (E1++e::E2)).length:=by simp[ecOf]
 have he:(ecOf (E1++e::E2))[E1.length]'hj=(keyF e.f,.csl e.i e.x.length e.cap):=by simp[ecOf]
 rw[mput_at hn hj (by rw[he])];simp[ecOf,hk]
theorem ecOf_none {E:List Ef}{k:Int}(h:k∉E.map (·.f)):∀x∈ecOf E,x.1≠keyF k:=by
 intro x hx;obtain⟨e,he,rfl⟩:=List.mem_map.1 hx;exact fun hh=>h (List.mem_map.2 ⟨e,he,keyF_inj.1 hh⟩)
theorem ecOf_add {E:List Ef}(e':Ef)(h:e'.f∉E.map (·.f)):mput (ecOf E) (keyF e'.f) (.csl e'.i e'.x.length e'.cap)=ecOf (E++[e']):=by
 rw[mput_none (ecOf_none h)];simp[ecOf]
theorem below_ecOf {E:List Ef}{n t:Nat}(h:∀e∈E,e.i<n):BelowAll n t ((ecOf E).map (·.2)):=by
 intro v hv;simp only[ecOf,List.map_map,List.mem_map,Function.comp] at hv;obtain⟨e,he,rfl⟩:=hv;exact .csl _ _ _ (h e he)
theorem fitF (f:Int)(hf:-9223372036854775808≤f∧f≤9223372036854775807):fitsB Tryz.prog 3 (keyF f)=true:=by
 have hu:Tryz.prog.underlying 3=some (.int .i64):=by kernel_rfl
 have hwf:(Lit.int .i64 f).wf=true:=by
  simp only[Lit.wf,Bool.and_eq_true,decide_eq_true_eq];exact hf
 unfold fitsB keyOf mapKey;rw[hu];simp[keyF,MKey.val,KC.val,hwf]
structure BF (H:List Blk)(T:Toks)(R:List (Nat×Blk))(b6 N:Nat)(J:List Blk)(U:Toks)(F:List Ef):Prop where
 hJ:Has J (R++(b6,.map (ecOf F))::efS F)
 hF:∀e∈F,EfOk H.length N e
 nd:(F.map (·.f)).Nodup
 ft:keysFit Tryz.prog 3 (ecOf F)=true
 pJ:Pre H J
 pU:Pre T U
 ok:HOk J U
attribute [-simp] List.getD_eq_getElem?_getD in
theorem num_step (H:List Blk)(T:Toks)(nb tb N:Nat)(hnb:nb≤H.length)(htb:tb≤T.length)(L:List Dc)(ns:List Nm)(vi vk b2 b4 b5 b6 b8:Nat)(id:Int)(zv nv:AV)(F:List Ef)(J:List Blk)(U:Toks)(R:List (Nat×Blk))
  (hB:BF H T R b6 N J U F) (hN:N≤1099511627776) (hk:vk<ns.length) (hkl:ns.length≤1099511627776)
  (h8:(b8,.cells [.int .i64 id,zv,nv])∈R) (hb6:H.length≤b6) (hl2:b2<J.length) (hl4:b4<J.length) (hl5:b5<J.length)
  (hf:-9223372036854775808≤(ns.getD vk n0).1∧(ns.getD vk n0).1≤9223372036854775807) (Q:Exit→St→Prop)
  (go:∀(e:Env)(J':List Blk)(F':List Ef),BF H T R b6 (N+1) J' U F'→StepF F (ns.getD vk n0).1 ((ns.getD vk n0).2,id) F'→J.length≤J'.length→envLe J'.length U.length e [(0,.sl L.length (dcAV L) .none),(2,.ptr b2 0),(4,.ptr b4 0),(5,.mref b5),(6,.mref b6),(8,.ptr b8 0),(34,.sl L.length (dcAV L) .none),(35,.int .i64 (L.length:Nat)),(36,.int .i64 (vi:Nat)),(128,.sl ns.length (nmAV ns) .none),(129,.int .i64 (ns.length:Nat)),(130,.int .i64 (vk:Nat))]→Q .normal ⟨e,J',U⟩) :
  AW ⟨Tryz.prog,192,152,nb,tb,[100104,100147,100166]⟩ (subC [1,1,1,1,1,1,1,1,0,1,0,0,1,1,0,0,1,1,1,1,1,0,0,1,1,0,0] (Tryz.f68.body.getD .skip)) Q ⟨[(0,.sl L.length (dcAV L) .none),(2,.ptr b2 0),(4,.ptr b4 0),(5,.mref b5),(6,.mref b6),(8,.ptr b8 0),(34,.sl L.length (dcAV L) .none),(35,.int .i64 (L.length:Nat)),(36,.int .i64 (vi:Nat)),(128,.sl ns.length (nmAV ns) .none),(129,.int .i64 (ns.length:Nat)),(130,.int .i64 (vk:Nat))],J,U⟩:=by
 conv=>arg 2;whnf
 have lH:=hB.pJ.le;have lT:=hB.pU.le;have hcut:=nmAV_cut ns vk hk;have HO:=hB.ok;generalize ns.getD vk n0=x at *;obtain⟨f,n⟩:=x;simp only at hcut hf go;have l8:=hB.hJ.lt (List.mem_append_left _ h8);have l6:=hB.hJ.lt (i:=b6) (b:=.map (ecOf F)) (by simp);refine aw_reg fun K hK=>?_;simp(disch:=omega)[hcut,nmAV_len];apply hK;clear hK K;have ho1:HOk (J++[.cells [.int .i64 f,.int .i64 n]]) U:=HO.snoc (by simp);obtain⟨q1,q2,q3,q4,q5,q6,q7⟩:=hB;have q1:Has (J++[.cells [.int .i64 f,.int .i64 n]]) (((J.length,.cells [.int .i64 f,.int .i64 n])::R)++(b6,.map (ecOf F))::efS F):=(q1.new (.cells [.int .i64 f,.int .i64 n])).perm (List.perm_append_singleton _ _).symm;have q5:=q5.app [Blk.cells [.int .i64 f,.int .i64 n]];have hll:(J++[Blk.cells [.int .i64 f,.int .i64 n]]).length=J.length+1:=by simp
 obtain⟨p16,h16⟩:∃i,i=J.length:=⟨_,rfl⟩
 rw[←h16] at q1;simp only[←h16];generalize J++[Blk.cells [.int .i64 f,.int .i64 n]]=J1 at *;refine aw_weak ⟨[(16,.ptr p16 0),(0,.sl L.length (dcAV L) .none),(2,.ptr b2 0),(4,.ptr b4 0),(5,.mref b5),(6,.mref b6),(8,.ptr b8 0),(34,.sl L.length (dcAV L) .none),(35,.int .i64 (L.length:Nat)),(36,.int .i64 (vi:Nat)),(128,.sl ns.length (nmAV ns) .none),(129,.int .i64 (ns.length:Nat)),(130,.int .i64 (vk:Nat))],J1,U⟩ (weak_to [] [] (by simp) (by simp) (by show nb≤_;omega) (by show tb≤_;omega) ho1 (by simp;omega)) ?_;have g6:=q1.get (i:=b6) (b:=.map (ecOf F)) (by simp);have g8:=q1.get (i:=b8) (b:=.cells [.int .i64 id,zv,nv]) (by simp[h8]);have g16:=q1.get (i:=p16) (b:=.cells [.int .i64 f,.int .i64 n]) (by simp);have l6:=(List.getElem?_eq_some_iff.1 g6).1;have l8:=(List.getElem?_eq_some_iff.1 g8).1;have l16:=(List.getElem?_eq_some_iff.1 g16).1;have e6:=at_of g6;have e8:=at_of g8;have e16:=at_of g16;have hfk:=fitF f hf;have hkey:keyF f=.one (.int .i64 f):=rfl;rw[hkey] at hfk
 by_cases hex:f∈F.map (·.f)
 rotate_left
 ·have hlook:lookV (ecOf F) (.one (.int .i64 f)) (.sl 0 [] .full) false=.sl 0 [] .full:=by
   unfold lookV;rw[←hkey,mget_none (ecOf_none hex)];rfl
  refine aw_drawM0 13 [13,14] [0,0,0,0,0,0,0,0,0,0,0,0,0,0,1] [[0,1,2],[]] drawMixed (by kernel_rfl) (by kernel_rfl) (by kernel_rfl) fun K hK=>?_;simp(disch:=omega)[mapT190,zeroV190,hfk,q4,e6,e8,e16,hlook,List.getElem?_append_left,List.getElem_append_left];intro nc hnc;refine hK _ ?_;obtain⟨ee,hee⟩:∃ee:Ef,ee=⟨f,[(n,id)],J1.length,nc,List.replicate ((nc-1)*2) .top⟩:=⟨_,rfl⟩
  have hput:mput (ecOf F) (.one (.int .i64 f)) (.csl J1.length 1 nc)=ecOf (F++[ee]):=by
   have:=ecOf_add (E:=F) ee (by rw[hee];exact hex);rw[hee] at this ⊢;exact this
  have hft':keysFit Tryz.prog 3 (ecOf (F++[ee]))=true:=by rw[←hput];exact keysFit_put q4 hfk
  rw[hput,show Blk.cells (.int .i64 n::.int .i64 id::List.replicate ((nc-1)*2) .top)=Ef.blk ee by rw[hee];rfl,←List.set_append_left _ _ l6];have hJ2:=q1.new (Ef.blk ee);rw[show J1.length=ee.i by rw[hee]] at hJ2;have hJ3:Has ((J1++[Ef.blk ee]).set b6 (.map (ecOf (F++[ee])))) (((p16,.cells [.int .i64 f,.int .i64 n])::R)++(b6,.map (ecOf (F++[ee])))::efS (F++[ee])):=by
   have:=Has.set (A:=(p16,.cells [.int .i64 f,.int .i64 n])::R) (B:=efS (F++[ee])) (b:=.map (ecOf F)) (by simpa[efS] using hJ2) (.map (ecOf (F++[ee])));exact this
  have ho2:HOk (J1++[Ef.blk ee]) U:=by
   refine ho1.snoc ?_;rw[hee];simp
  have hll2:(J1++[Ef.blk ee]).length=J1.length+1:=by simp
  have hb:∀e∈F++[ee],e.i<(J1++[Ef.blk ee]).length:=fun e he=>by
   have:=hJ3.lt (i:=e.i) (b:=Ef.blk e) (by simp only[List.mem_append,List.mem_cons];exact .inr (.inr (List.mem_map.2 ⟨e,he,rfl⟩)));simpa using this
  refine go _ _ (F++[ee]) ⟨hJ3.sub ((List.sublist_cons_self _ _).append_right _),fun e he=>?_,(StepF.add (it:=(n,id)) q3 (by rw[hee];exact hex) (by rw[hee])).nd,hft',(q5.app _).set hb6 _,q6,ho2.setMap (below_ecOf hb)⟩ ?_ (by simp;omega) ?_
  ·rcases List.mem_append.1 he with he|he
   ·have:=q2 e he;exact⟨this.r,this.c,Nat.le_succ_of_le this.n,this.i,this.p⟩
   ·simp at he;subst he;rw[hee];exact⟨by simp,hnc,by simp,by show H.length≤J1.length;omega,by simp⟩
  ·have:=StepF.add (e':=ee) (it:=(n,id)) q3 (by rw[hee];exact hex) (by rw[hee])
   rwa [show ee.f=f by rw[hee]] at this
  ·simp;omega
 ·obtain⟨e,heE,hek⟩:=List.mem_map.1 hex;obtain⟨E1,E2,rfl⟩:=List.append_of_mem heE;obtain⟨f0,xs,i,cap,rest⟩:=e;simp only at hek;subst hek;obtain⟨k1,k2,k3,k4,k5⟩:=q2 _ heE;simp only at k1 k2 k3 k4 k5;have hE':∀e,e∈E1∨e∈E2→EfOk H.length (N+1) e:=fun e he=>by
   have:=q2 e (by rcases he with he|he<;>simp[he]);exact⟨this.r,this.c,Nat.le_succ_of_le this.n,this.i,this.p⟩
  have hJb:Has J1 (((p16,.cells [.int .i64 f0,.int .i64 n])::R)++(b6,.map (ecOf (E1++⟨f0,xs,i,cap,rest⟩::E2)))::(efS E1++(i,.cells (nmAV xs++rest))::efS E2)):=by
   have:=q1;simpa[efS,Ef.blk] using this
  have gi:=hJb.get (i:=i) (b:=.cells (nmAV xs++rest)) (by simp);have li:=(List.getElem?_eq_some_iff.1 gi).1;have ei:=at_of gi;have hbl:(nmAV xs++rest).length=xs.length*2+rest.length:=by rw[List.length_append,nmAV_len]
  have hget:=ecOf_get q3;simp only at hget;have hlook:lookV (ecOf (E1++⟨f0,xs,i,cap,rest⟩::E2)) (.one (.int .i64 f0)) (.sl 0 [] .full) false=.csl i xs.length cap:=by
   unfold lookV;rw[←hkey,hget];rfl
  have hput0:=fun e' hk=>ecOf_put q3 e' hk;have hold:=fun e' hk hp=>StepF.old (it:=(n,id)) q3 (e':=e') hk hp;simp only at hput0 hold;rw[hkey] at hput0;have htk:(nmAV xs++rest).take (xs.length*2)=nmAV xs:=List.take_left' (by rw[nmAV_len]);have hdr:(nmAV xs++rest).drop ((xs.length+1)*2)=rest.drop 2:=by
   rw[List.drop_append,List.drop_of_length_le (by rw[nmAV_len];omega),List.nil_append,nmAV_len]
   congr 1;omega
  have hnb:∀r,BelowAll J1.length U.length r→True:=fun _ _=>trivial;have fin:∀(e:Env)(J2:List Blk)(i2 cap2:Nat)(rest2:List AV),Has J2 (((p16,.cells [.int .i64 f0,.int .i64 n])::R)++(b6,.map (ecOf (E1++⟨f0,xs,i,cap,rest⟩::E2)))::(efS E1++(i2,.cells (nmAV (xs++[(n,id)])++rest2))::efS E2))→HOk J2 U→Pre H J2→J1.length≤J2.length→rest2.length=(cap2-(xs.length+1))*2→xs.length+1≤cap2→H.length≤i2→
    envLe J2.length U.length e [(0,.sl L.length (dcAV L) .none),(2,.ptr b2 0),(4,.ptr b4 0),(5,.mref b5),(6,.mref b6),(8,.ptr b8 0),(34,.sl L.length (dcAV L) .none),(35,.int .i64 (L.length:Nat)),(36,.int .i64 (vi:Nat)),(128,.sl ns.length (nmAV ns) .none),(129,.int .i64 (ns.length:Nat)),(130,.int .i64 (vk:Nat))]→Q .normal ⟨e,J2.set b6 (.map (mput (ecOf (E1++⟨f0,xs,i,cap,rest⟩::E2)) (.one (.int .i64 f0)) (.csl i2 (xs.length+1) cap2))),U⟩:=by
   intro e J2 i2 cap2 rest2 hJ2 hO2 hP2 hl2 hr2 hc2 hi2 he;obtain⟨ee,hee⟩:∃ee:Ef,ee=⟨f0,xs++[(n,id)],i2,cap2,rest2⟩:=⟨_,rfl⟩
   have hput:mput (ecOf (E1++⟨f0,xs,i,cap,rest⟩::E2)) (.one (.int .i64 f0)) (.csl i2 (xs.length+1) cap2)=ecOf (E1++ee::E2):=by
    have:=hput0 ee (by rw[hee]);rw[hee] at this ⊢;simpa using this
   have hft':keysFit Tryz.prog 3 (ecOf (E1++ee::E2))=true:=by rw[←hput];exact keysFit_put q4 hfk
   rw[hput];have hS:efS (E1++ee::E2)=efS E1++(i2,.cells (nmAV (xs++[(n,id)])++rest2))::efS E2:=by rw[hee];simp[efS,Ef.blk]
   rw[←hS] at hJ2;have hJ3:=hJ2.set (.map (ecOf (E1++ee::E2)));have hb:∀e∈E1++ee::E2,e.i<J2.length:=fun e he=>hJ2.lt (b:=Ef.blk e) (by simp only[List.mem_append,List.mem_cons];exact .inr (.inr (List.mem_map.2 ⟨e,he,rfl⟩)));refine go _ _ (E1++ee::E2) ⟨hJ3.sub ((List.sublist_cons_self _ _).append_right _),fun e he=>?_,(hold ee (by rw[hee]) (by rw[hee])).nd,hft',hP2.set hb6 _,q6,hO2.setMap (below_ecOf hb)⟩ (hold ee (by rw[hee]) (by rw[hee])) (by simp;omega) (by simpa using he);rcases List.mem_append.1 he with he|he
   ·exact hE' e (.inl he)
   ·rcases List.mem_cons.1 he with rfl|he
    ·rw[hee];exact⟨by simp[hr2],by simpa using hc2,by simp;omega,hi2,by simp⟩
    ·exact hE' e (.inr he)
  refine aw_drawM0 13 [13,14] [0,0,0,0,0,0,0,0,0,0,0,0,0,0,1] [[0,1,2],[]] drawMixed (by kernel_rfl) (by kernel_rfl) (by kernel_rfl) fun K hK=>?_;simp(disch:=omega)[mapT190,zeroV190,hfk,q4,e6,e8,e16,hlook];refine⟨nmAV xs++rest,ei li,by rw[hbl];omega,[.int .i64 n,.int .i64 id],1,⟨rfl,rfl⟩,by omega,by omega,fun hle=>?_,fun nc hlt hnc=>?_⟩
  ·rw[htk,hdr];rw[show Blk.cells (nmAV xs++([.int .i64 n,.int .i64 id]++rest.drop 2))=.cells (nmAV (xs++[(n,id)])++rest.drop 2) by rw[←List.append_assoc,nmAV_snoc xs (n,id)]];have hJ2:Has (J1.set i (.cells (nmAV (xs++[(n,id)])++rest.drop 2))) (((p16,.cells [.int .i64 f0,.int .i64 n])::R)++(b6,.map (ecOf (E1++⟨f0,xs,i,cap,rest⟩::E2)))::(efS E1++(i,.cells (nmAV (xs++[(n,id)])++rest.drop 2))::efS E2)):=by
    have:=Has.set (A:=((p16,.cells [.int .i64 f0,.int .i64 n])::R)++(b6,.map (ecOf (E1++⟨f0,xs,i,cap,rest⟩::E2)))::efS E1) (B:=efS E2) (by simpa using hJb) (.cells (nmAV (xs++[(n,id)])++rest.drop 2));simpa using this
   have hP2:=q5.set k4 (.cells (nmAV (xs++[(n,id)])++rest.drop 2));have hO2:HOk (J1.set i (.cells (nmAV (xs++[(n,id)])++rest.drop 2))) U:=by
    refine ho1.set ?_;have:=ho1 i (.cells (nmAV xs++rest)) gi;simp only[Blk.vals] at this;intro v hv;rcases List.mem_append.1 hv with hv|hv
    ·exact below_nm _ _ _ v hv
    ·exact this v (List.mem_append_right _ (List.mem_of_mem_drop hv))
   have hl:J1.length=(J1.set i (.cells (nmAV (xs++[(n,id)])++rest.drop 2))).length:=by simp
   have fin2:=fun e=>fin e _ i cap (rest.drop 2) hJ2 hO2 hP2 (by omega) (by rw[List.length_drop];omega) (by omega) k4;generalize J1.set i (.cells (nmAV (xs++[(n,id)])++rest.drop 2))=J2 at *;have g6:=hJ2.get (i:=b6) (b:=.map (ecOf (E1++⟨f0,xs,i,cap,rest⟩::E2))) (by simp);have g16:=hJ2.get (i:=p16) (b:=.cells [.int .i64 f0,.int .i64 n]) (by simp);have l6:=(List.getElem?_eq_some_iff.1 g6).1;have l16:=(List.getElem?_eq_some_iff.1 g16).1;have e6:=at_of g6;have e16:=at_of g16;simp(disch:=omega)[q4,e6,e16];refine hK _ (fin2 _ ?_);simp;omega
  ·rw[htk];obtain⟨r2,hr2⟩:∃r2,r2=List.replicate ((nc-(xs.length+1))*2) AV.top:=⟨_,rfl⟩
   have hr2l:r2.length=(nc-(xs.length+1))*2:=by rw[hr2];simp
   have hr2b:BelowAll (J1.length+1) U.length r2:=by rw[hr2];simp
   rw[←hr2];rw[show Blk.cells (nmAV xs++([.int .i64 n,.int .i64 id]++r2))=.cells (nmAV (xs++[(n,id)])++r2) by rw[←List.append_assoc,nmAV_snoc xs (n,id)]];have hJ2:Has (J1++[.cells (nmAV (xs++[(n,id)])++r2)]) (((p16,.cells [.int .i64 f0,.int .i64 n])::R)++(b6,.map (ecOf (E1++⟨f0,xs,i,cap,rest⟩::E2)))::(efS E1++(J1.length,.cells (nmAV (xs++[(n,id)])++r2))::efS E2)):=by
    have h0:Has J1 (((p16,.cells [.int .i64 f0,.int .i64 n])::R)++(b6,.map (ecOf (E1++⟨f0,xs,i,cap,rest⟩::E2)))::(efS E1++efS E2)):=hJb.sub (List.Sublist.append_left (List.Sublist.cons_cons _ (List.Sublist.append_left (List.sublist_cons_self _ _) _)) _);refine(h0.new _).perm ?_;simp only[List.append_assoc,List.cons_append];exact((((List.perm_append_singleton _ _).symm.append_left _).cons _).append_left _).cons _
   have hP2:=q5.app [Blk.cells (nmAV (xs++[(n,id)])++r2)];have hO2:HOk (J1++[.cells (nmAV (xs++[(n,id)])++r2)]) U:=ho1.snoc (by simp[hr2b]);have hl:(J1++[Blk.cells (nmAV (xs++[(n,id)])++r2)]).length=J1.length+1:=by simp
   have fin2:=fun e=>fin e _ J1.length nc r2 hJ2 hO2 hP2 (by omega) hr2l (by omega) (by omega)
   (try simp(disch:=omega)[q4,e6,e16])
   refine hK _ ?_;rw[←List.set_append_left _ _ l6];refine fin2 _ ?_;simp;omega
end Go.Proofs.YtoejlmpbebjemaaGreat
