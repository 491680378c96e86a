/- One operation over abstract values, and that it is what the model does. Regions, calls and whole functions over abstract states. The rules as they are used in a walk, encodings of lists, and the rewriting rules of the walk. Regions that draw their order, over abstract states: the walk goes in the order of the text; what other orders may do is asked beside it. Regions that draw their order: every order comes to what the text's order comes to. Steps that only the abstract states take: what is new is forgotten, a finished row becomes immutable, an empty end gets a token.
  Conditions: none; it speaks of every program. -/
import Derived.Test.YtneohapkboaplaaGreatAmA
import Derived.Laws.StructEq
set_option linter.all false
open Nat (le_refl lt_or_ge le_trans lt_of_lt_of_le)
open List (getElem?_eq_getElem getElem?_append_left getD_eq_getElem?_getD getElem_cons_zero getElem_map map_cons map_nil map_congr_left getElem?_toArray length_append length_singleton map_toArray take_length)
namespace Go.Am
open Go
section
variable {P : Program} {L : Lay} {H : List aA} {T : ar} {w : World}
theorem bT.NL (h:bT L H T w)(s:List UInt8) :
  ∃L',bT L' (H++[.iter s 0]) T (w.alloc (.stringIter ⟨s.toArray⟩ 0))∧Ev H.length T.length L H.length T w L' (H++[aA.iter s 0]).length T (w.alloc (.stringIter ⟨s.toArray⟩ 0))∧L'.bN H.length=w.heap.size:=by
 have h1:=h.alloc (.stringIter ⟨s.toArray⟩ 0) 0;have e1:=Ev.alloc h (.stringIter ⟨s.toArray⟩ 0) 0;have Et:¬Wr (L.bQ w.heap.size 0) H.length T w.heap.size:=h.uD (le_refl _);refine⟨(L.bQ w.heap.size 0).de H.length w.heap.size,h1.p7 w.heap.size Et (.iter s 0) (fun hle=>by simp at hle;omega) ?_,Ev.p7 (b:=w.heap.size) (aA.iter s 0) e1 (le_refl _),by simp[Lay.de]⟩;show (w.alloc _).heap[((L.bQ w.heap.size 0).de H.length w.heap.size).bN H.length]?=_;rw[show ((L.bQ w.heap.size 0).de H.length w.heap.size).bN H.length=w.heap.size by simp[Lay.de]];exact eI w _
def M6 (P:Program)(t:TypeId)(x:AV):Option AV:=
 match P.underlying t,x with
 |some .string,.str s=>some (.int .i64 s.length)
 |some (.slice _),.sl n _ _=>some (.int .i64 n)
 |some (.slice _),.bV _ _ n=>some (.int .i64 n)
 |some (.slice _),.bJ _ n _=>some (.int .i64 n)
 |some (.array n _),_=>some (.int .i64 n)
 |_,_=>none
theorem Nt {t ty:TypeId}{x r:AV}{c:Value}{N:Nat}(h:M6 P t x=some r)(hx:bc L N T w x c):∃cv,(Builtin.len_ #[t] ty #[c]).run P w=.ok cv w∧bc L N T w r cv:=by
 unfold M6 at h
 split at h
 ·rename_i s hu
  cases h
  rw[hx.gK];exact⟨.int .i64 s.length,by rw[run_len_string w t ty _ hu];rfl,.int _ _⟩
 ·rename_i e n cs tg hu
  cases h
  obtain⟨a,cap,rfl,_⟩:=hx.eO;exact⟨.int .i64 n,by simp[Builtin.len_,run_underlying hu,goInt],.int _ _⟩
 ·rename_i e i o n hu
  cases h
  obtain⟨cap,rfl,_⟩:=hx.jb;exact⟨.int .i64 n,by simp[Builtin.len_,run_underlying hu,goInt],.int _ _⟩
 ·rename_i e i n cap hu
  cases h
  obtain⟨rfl,_⟩:=hx.ir;exact⟨.int .i64 n,by simp[Builtin.len_,run_underlying hu,goInt],.int _ _⟩
 ·rename_i n e hu
  cases h
  exact⟨.int .i64 n,by simp[Builtin.len_,run_underlying hu,goInt],.int _ _⟩
 ·cases h
def Gh (mx:Bool):AV→List AV→Option AV
 |acc,[]=>some acc
 |.int k x,.int _ y::r=>Gh mx (.int k (if mx then (if y>x then y else x) else (if y<x then y else x))) r
 |_,_=>none
def Td (mx:Bool):List AV→Option AV
 |[]=>none
 |x::r=>Gh mx x r
theorem KD {N:Nat}(mx:Bool):∀(l:List AV)(cs:List Value)(acc r:AV)(ca:Value),Gh mx acc l=some r→bc L N T w acc ca→cs.length=l.length→(∀(j:Nat)(h:j<l.length)(h':j<cs.length),bc L N T w (l[j]'h) (cs[j]'h'))→
  ∃cv,(cs.foldlM (if mx then Builtin.max2 else Builtin.min2) ca).run P w=.ok cv w∧bc L N T w r cv:=by
 intro l
 induction l with
 |nil=>
  intro cs acc r ca h ha hl _;have:cs=[]:=List.eq_nil_of_length_eq_zero hl;subst this;simp only[Gh,Option.some.injEq] at h;subst h;exact⟨ca,rfl,ha⟩
 |cons v l ih=>
  intro cs acc r ca h ha hl hr
  match cs,hl,hr with
  |c::cs,hl,hr=>
   have h0:=hr 0 (by simp) (by simp);simp only[getElem_cons_zero] at h0
   cases acc<;>cases v<;>simp only[Gh,reduceCtorEq] at h
   rw[ha.dC,h0.dC];obtain⟨cv,g1,g2⟩:=ih cs _ r _ h (.int _ _) (by simpa using hl) (fun j hj bR=>by have:=hr (j+1) (by simpa using hj) (by simpa using bR);simpa using this);refine⟨cv,?_,g2⟩;rw[List.foldlM_cons,←g1]
   cases mx<;>rfl
theorem EX {N:Nat}{ty:TypeId}{ts:Array TypeId}(mx:Bool)(l:List AV)(cs:List Value)(r:AV)(h:Td mx l=some r)(hl:cs.length=l.length)(hr:∀(j:Nat)(h:j<l.length)(h':j<cs.length),bc L N T w (l[j]'h) (cs[j]'h')) :
  ∃cv,((if mx then Builtin.max_ else Builtin.min_) ts ty cs.toArray).run P w=.ok cv w∧bc L N T w r cv:=by
 match l,cs,hl,hr,h with
 |v::l,c::cs,hl,hr,h=>
  have h0:=hr 0 (by simp) (by simp);simp only[getElem_cons_zero] at h0;obtain⟨cv,g1,g2⟩:=KD (P:=P) mx l cs v r c h h0 (by simpa using hl) (fun j hj bR=>by have:=hr (j+1) (by simpa using hj) (by simpa using bR);simpa using this);refine⟨cv,?_,g2⟩;rw[←g1]
  cases mx<;>rfl
 |[],[],_,_,h=>simp[Td] at h
def nZ (P:Program):List Field→List AV→List AV→Option Bool
 |[],_,_=>some true
 |f::fs,xs,ys=>
  if f.name = "_" then none else
  match P.underlying f.type,xs[f.offset]?,ys[f.offset]? with
  |some (.int _),some (.int k a),some (.int k' b)=>if k=k' then (nZ P fs xs ys).map ((a==b)&&·) else none
  |some .string,some (.str a),some (.str b)=>(nZ P fs xs ys).map ((a==b)&&·)
  |some .bool,some (.bool a),some (.bool b)=>(nZ P fs xs ys).map ((a==b)&&·)
  |_,_,_=>none
def oo (P:Program)(t:TypeId)(x y:AV):Option Bool:=
 match x,y with
 |.agg xs,.agg ys=>if P.stoodInHeld t=false∧P.eqGuardType P.depth t=false then
   match P.underlying t with
   |some (.struct fs)=>nZ P fs.toList xs ys
   |_=>none
  else none
 |_,_=>none
def EP (P:Program)(op:BinOp)(t:TypeId)(x y:AV):Option AV:=
 match op with
 |.eql=>(oo P t x y).map .bool
 |.neq=>(oo P t x y).map fun b=>.bool (!b)
 |_=>none
theorem cz.at {N:Nat}{xs:List AV}{c:List Value}{i:Nat}{v:AV}(h:cz L N T w xs c)(hi:xs[i]?=some v):∃x,c[i]?=some x∧bc L N T w v x:=by
 obtain⟨aZ,rfl⟩:=List.getElem?_eq_some_iff.1 hi;have nu:i<c.length:=by rw[h.1];exact aZ
 exact⟨c[i],getElem?_eq_getElem nu,h.2.2 i aZ nu⟩
theorem DC {N:Nat}(d:Nat){xs ys:List AV}{cx cy:Array Value}(hx:cz L N T w xs cx.toList)(hy:cz L N T w ys cy.toList):∀(fs:List Field)(b:Bool),nZ P fs xs ys=some b→(Op.eqFields (d+1) cx cy fs).run P w=.ok b w:=by
 intro fs
 induction fs with
 |nil=>intro b h;cases h;rfl
 |cons f fs ih=>
  intro b h;unfold nZ at h
  split at h
  ·cases h
  ·rename_i hn;have fin:∀(v u:Value)(r:Bool),iT P f.type=some false→cx.toList[f.offset]?=some v→cy.toList[f.offset]?=some u→(Op.equalIn (d+1) f.type v u).run P w=.ok r w→
     (nZ P fs xs ys).map (r&&·)=some b→(Op.eqFields (d+1) cx cy (f::fs)).run P w=.ok b w:=by
    intro v u r ha hv hu he hm;obtain⟨b',vN,rfl⟩:=Option.map_eq_some_iff.1 hm;have Zg:cx[f.offset]?=some v:=by simpa using hv
    have WX:cy[f.offset]?=some u:=by simpa using hu
    have p1:(part f.type cx f.offset).run P w=.ok v w:=by
     simp only[part,Sem.run_bind,jV ha,Result.andThen_ok,Bool.false_eq_true,if_false,Zg];rfl
    have p2:(part f.type cy f.offset).run P w=.ok u w:=by
     simp only[part,Sem.run_bind,jV ha,Result.andThen_ok,Bool.false_eq_true,if_false,WX];rfl
    simp only[Op.eqFields,if_pos hn,Sem.run_bind,p1,p2,Result.andThen_ok,he]
    cases r
    ·simp
    ·simpa using ih b' vN
   split at h
   ·rename_i hu h1 h2
    split at h
    ·rename_i hk;subst hk;obtain⟨v,v1,v2⟩:=hx.at h1;obtain⟨u,u1,u2⟩:=hy.at h2;rw[v2.dC] at v1;rw[u2.dC] at u1;exact fin _ _ _ (by simp[iT,hu]) v1 u1 (run_equalIn_int w d _ _ _ _ _ hu) h
    ·cases h
   ·rename_i hu h1 h2;obtain⟨v,v1,v2⟩:=hx.at h1;obtain⟨u,u1,u2⟩:=hy.at h2;rw[v2.gK] at v1;rw[u2.gK] at u1;refine fin _ _ _ (by simp[iT,hu]) v1 u1 ?_ h;rw[run_equalIn_string w d _ _ _ hu,toList_mk,toList_mk]
   ·rename_i hu h1 h2;obtain⟨v,v1,v2⟩:=hx.at h1;obtain⟨u,u1,u2⟩:=hy.at h2;rw[v2.iC] at v1;rw[u2.iC] at u1;exact fin _ _ _ (by simp[iT,hu]) v1 u1 (run_equalIn_bool' w d _ _ _ hu) h
   ·cases h
theorem G7 {N:Nat}{op:BinOp}{t:TypeId}{x y r:AV}{cx cy:Value}(h:EP P op t x y=some r)(hx:bc L N T w x cx)(hy:bc L N T w y cy)(ox oy:Operand) :
  ∃cv,(eqGuard op t ox oy cx cy >>= fun _=>binOp op t cx cy).run P w=.ok cv w∧∀(L:Lay)(N:Nat)(T:ar)(w':World),bc L N T w' r cv:=by
 have key:∀b,oo P t x y=some b→∃xs ys,cx=.agg xs∧cy=.agg ys∧P.eqGuardType P.depth t=false∧(Op.equalIn 10000 t (.agg xs) (.agg ys)).run P w=.ok b w:=by
  intro b hb;unfold oo at hb
  split at hb
  ·rename_i xs ys
   split at hb
   ·rename_i hg
    split at hb
    ·rename_i fs hu
     cases hx with
     |agg _ cxa a1 a2 a3=>
      cases hy with
      |agg _ cya b1 b2 b3=>
       refine⟨cxa,cya,rfl,rfl,hg.2,?_⟩;have hf:P.fieldsOf t=fs:=by simp[Program.fieldsOf,hu]
       rw[run_equalIn_struct w 9999 t cxa cya (by rw[hf];exact hu) hg.1,hf];exact DC 9998 (cz.yz (.agg _ _ a1 a2 a3)) (cz.yz (.agg _ _ b1 b2 b3)) _ _ hb
    ·cases hb
   ·cases hb
  ·cases hb
 unfold EP at h
 split at h
 ·obtain⟨b,hb,rfl⟩:=Option.map_eq_some_iff.1 h;obtain⟨xs,ys,rfl,rfl,hg,hr⟩:=key b hb;refine⟨.bool b,?_,fun _ _ _ _=>.bool _⟩;simp only[Sem.run_bind,run_eqGuard_agg w _ _ _ _ _ _ hg,Result.andThen_ok,run_eql_struct,hr]
 ·obtain⟨b,hb,rfl⟩:=Option.map_eq_some_iff.1 h;obtain⟨xs,ys,rfl,rfl,hg,hr⟩:=key b hb;refine⟨.bool (!b),?_,fun _ _ _ _=>.bool _⟩;simp only[Sem.run_bind,run_eqGuard_agg w _ _ _ _ _ _ hg,Result.andThen_ok,run_neq_struct,hr]
 ·cases h
def yN:Operand→Operand→Bool
 |.tmp a,.tmp b=>a==b
 |.const (.int k a),.const (.int k' b)=>k==k'&&a==b
 |_,_=>false
abbrev Res:=Option (AV×List aA×ar)
def uM (P:Program)(H:List aA)(t:TypeId)(x:AV):Option (List aA):=
 match P.underlying t,x with
 |some (.slice e),.bV i o n=>if n=0 then some H else match H[i]?,br P e with
  |some (.cells vs),some zs=>if 0<zs.length∧o+n*zs.length≤vs.length then some (H.set i (.cells (setMany vs o (fH zs (n*zs.length))))) else none
  |_,_=>none
 |_,_=>none
theorem G0 {t ty:TypeId}{x:AV}{c:Value}{H':List aA}(hc:bT L H T w)(h:uM P H t x=some H')(hx:bc L H.length T w x c) :
  ∃cv w' L',(Builtin.clear_ #[t] ty #[c]).run P w=.ok cv w'∧bT L' H' T w'∧bc L' H'.length T w' .top cv∧Ev H.length T.length L H.length T w L' H'.length T w':=by
 unfold uM at h
 split at h
 ·rename_i e i o n hu;obtain⟨cap,rfl,cg,aZ⟩:=hx.jb
  split at h
  ·rename_i hn
   cases h
   subst hn;exact⟨.tuple #[],w,L,by simp[Builtin.clear_,run_underlying hu],hc,.top _,Ev.refl (le_refl _) (le_refl _)⟩
  ·rename_i hn
   split at h
   ·rename_i vs zs hi hz
    split at h
    ·rename_i hle
     cases h
     obtain⟨inf,z,h1,h2,h3,h4⟩:=dO (L:=L) (T:=T) (w:=w) (N:=H.length) hz;have iQ:z.cells.size=zs.length:=by have:=h3.1;simpa using this
     have hr:=o9 (n:=n*zs.length) h3 (.inl hle.1);have Zd:(Builtin.zeroCells z.cells n).toList=(madeCells z.cells (n*zs.length)).toList:=by rw[←iQ];rfl
     rw[←Zd] at hr;have hlen:(fH zs (n*zs.length)).length=n*zs.length:=by simp[fH]
     obtain⟨w',eM,cT,dP⟩:=lL (P:=P) i o (fH zs (n*zs.length)) (Builtin.zeroCells z.cells n).toList 0 H w vs hc hr hi (by rw[hlen];omega);obtain⟨m,rfl⟩:∃m,n=m+1:=⟨n-1,by omega⟩
     refine⟨.tuple #[],w',L,?_,cT,.top _,dP⟩;simp[Builtin.clear_,run_underlying hu,jo h1 h2,eM]
    ·cases h
   ·cases h
 ·cases h
def rn (P:Program)(b:Builtin)(ts:Array TypeId)(args:List AV)(H:List aA)(T:ar):Res:=
 match b,ts.toList,args with
 |.len,[t],[x]=>(M6 P t x).map (·,H,T)
 |.append,[t,t2],[s,x]=>match s with
  |.bV i o n=>(ER P H t t2 (.bV i o n) x).map (·,H,T)
  |s=>(qP P H T t t2 s x).map fun(v,T')=>(v,H,T')
 |.max,_,l=>(Td true l).map (·,H,T)
 |.min,_,l=>(Td false l).map (·,H,T)
 |.clear,[t],[x]=>(uM P H t x).map fun H'=>(.top,H',T)
 |_,_,_=>none
def EN (P:Program)(op:BinOp)(t:TypeId)(y:Operand)(ax:AV):Option AV:=
 match y with
 |.const .nilIface=>match P.underlying t,ax,op with
  |some (.interface _),.ly,.eql=>some (.bool true)
  |some (.interface _),.ly,.neq=>some (.bool false)
  |some (.interface _),.yc,.eql=>some (.bool false)
  |some (.interface _),.yc,.neq=>some (.bool true)
  |_,_,_=>none
 |_=>none
theorem G5 {op:BinOp}{t:TypeId}{x y:Operand}{ax r:AV}{a:Act}{N:Nat}(h:EN P op t y ax=some r)(hx:bc L N T w ax (a.eval x)) :
  ∃cv,(eqGuard op t x y (a.eval x) (a.eval y) >>= fun _=>binOp op t (a.eval x) (a.eval y)).run P w=.ok cv w∧∀(L:Lay)(N:Nat)(T:ar)(w':World),bc L N T w' r cv:=by
 have g1:∀op,(eqGuard op t x (.const .nilIface) .nilIface .nilIface).run P w=.ok () w:=fun op=>by
  unfold eqGuard
  cases op<;>simp
 have g2:∀op t' v,(eqGuard op t x (.const .nilIface) (.iface t' v) .nilIface).run P w=.ok () w:=fun op t' v=>by
  unfold eqGuard
  cases op<;>simp
 unfold EN at h
 split at h
 ·have e2:a.eval (.const .nilIface)=.nilIface:=rfl;rw[e2]
  split at h
  ·rename_i ms hu
   cases h
   rw[hx.AS,Sem.run_bind,g1,Result.andThen_ok];exact⟨_,jQ t _ _ true .eql (.inl rfl) rfl rfl (fun d=>by simp only[Op.equalIn,Sem.run_bind,run_underlying hu,Result.andThen_ok];rfl),fun _ _ _ _=>.bool _⟩
  ·rename_i ms hu
   cases h
   rw[hx.AS,Sem.run_bind,g1,Result.andThen_ok];exact⟨_,jQ t _ _ true .neq (.inr rfl) rfl rfl (fun d=>by simp only[Op.equalIn,Sem.run_bind,run_underlying hu,Result.andThen_ok];rfl),fun _ _ _ _=>.bool _⟩
  ·rename_i ms hu
   cases h
   obtain⟨t',v,e⟩:=hx.Ff;rw[e,Sem.run_bind,g2,Result.andThen_ok];exact⟨_,jQ t _ _ false .eql (.inl rfl) rfl rfl (fun d=>by simp only[Op.equalIn,Sem.run_bind,run_underlying hu,Result.andThen_ok];rfl),fun _ _ _ _=>.bool _⟩
  ·rename_i ms hu
   cases h
   obtain⟨t',v,e⟩:=hx.Ff;rw[e,Sem.run_bind,g2,Result.andThen_ok];exact⟨_,jQ t _ _ false .neq (.inr rfl) rfl rfl (fun d=>by simp only[Op.equalIn,Sem.run_bind,run_underlying hu,Result.andThen_ok];rfl),fun _ _ _ _=>.bool _⟩
  ·cases h
 ·cases h
def EC (P:Program)(o:Oper)(e:Env)(H:List aA)(T:ar):Res:=
 match o.op with
 |.move x=>some (bK e x,H,T)
 |.assign x=>some (bK e x,H,T)
 |.pick c a b=>match bK e c with
  |.bool t=>some (if t then bK e a else bK e b,H,T)
  |_=>none
 |.alloc t=>(br P t).map fun zs=>(.ptr H.length 0,H++[.cells zs],T)
 |.box _ x=>(PK (bK e x)).map fun xs=>(.ptr H.length 0,H++[.cells xs],T)
 |.build t ps=>(yK P t (ps.toList.map fun(x:Nat×Operand)=>(x.1,bK e x.2))).map (·,H,T)
 |.buildSlice t n ps=>(lp P t n (ps.toList.map fun(x:Nat×Operand)=>(x.1,bK e x.2))).map (·,H,T)
 |.load t a=>match Jt H (bK e a) with
  |some (vs,o)=>(pD P t vs o).map (·,H,T)
  |none=>none
 |.store t a x=>match bK e a,PK (bK e x) with
  |.ptr i o,some xs=>match H[i]? with
   |some (.cells vs)=>if xs.length=P.cellsOf t∧o+xs.length≤vs.length∧(P.underlying t).isSome=true then some (.top,H.set i (.cells (setMany vs o xs)),T) else none
   |_=>none
  |_,_=>none
 |.nilCheck x=>match bK e x with
  |.ptr i o=>some (.ptr i o,H,T)
  |.dK cs o=>some (.dK cs o,H,T)
  |.fn f a b=>some (.fn f a b,H,T)
  |_=>none
 |.binOp op t x y _=>match EN P op t y (bK e x) with
  |some r=>some (r,H,T)
  |none=>if rM P t (bK e x)=true then (M8 op (bK e x) (bK e y)).map (·,H,T) else (EP P op t (bK e x) (bK e y)).map (·,H,T)
 |.unOp u _ x=>(Xo u (bK e x)).map (·,H,T)
 |.convert s d x=>match P.underlying s,P.underlying d,bK e x with
  |some .string,some (.slice el),.str b=>match P.underlying el with
   |some (.int .u8)=>some (.sl b.length (qu b) .none,H,T)
   |_=>none
  |_,_,_=>(EO P H s d (bK e x)).map (·,H,T)
 |.makeFunc (.func f) first db=>some (.fn f (first.toList.map (bK e)) (db.toList.map (bK e)),H,T)
 |.makeSlice t l c=>match P.underlying t,bK e l,bK e c with
  |some (.slice el),.int _ a,.int _ b=>match br P el with
   |some zs=>
    if 0<zs.length∧0≤b∧b.toNat*P.bytesOf el≤281474976710656∧b.toNat≤9223372036854775807∧0<P.cellsOf el then
     if yN l c=true then some (.bJ H.length b.toNat b.toNat,H++[.cells (fH zs (b.toNat*P.cellsOf el))],T)
     else if a=0 then some (.sl 0 [] (.own T.length),H,T++[(0,P.cellsOf el)]) else none
    else none
   |none=>none
  |_,_,_=>none
 |.slice t x lo hi mx=>(yG P t (bK e x) (lo.map (bK e)) (hi.map (bK e)) (mx.map (bK e))).map (·,H,T)
 |.fieldAddr t x f=>(mK P t (bK e x) f).map (·,H,T)
 |.field t x f=>(yJ P t (bK e x) f).map (·,H,T)
 |.indexAddr t x i=>(mJ P t (bK e x) (bK e i)).map (·,H,T)
 |.index t x i=>(yH P t (bK e x) (bK e i)).map (·,H,T)
 |.extract x i=>match bK e x with
  |.df vs=>if i<vs.length then some (vs.getD i .top,H,T) else none
  |_=>none
 |.range t x=>match bK e x with
  |.str s=>match P.underlying t with
   |some .string=>some (.ptr H.length 0,H++[.iter s 0],T)
   |_=>none
  |.aO m=>match tq P t,H[m]? with
   |some _,some (.map es)=>some (.ptr H.length 0,H++[.kK m es.length []],T)
   |_,_=>none
  |_=>none
 |.makeMap _ none=>some (.aO H.length,H++[.map []],T)
 |.lookup t x i ok=>match bK e x,tq P t,EH (bK e i) with
  |.aO m,some (kt,el),some k=>match H[m]?,n9 P el with
   |some (.map es),some z=>if kX P kt k=true∧cW P kt es=true then some (gS es k z ok,H,T) else none
   |_,_=>none
  |_,_,_=>none
 |.mapUpdate t m k x=>match bK e m,tq P t,EH (bK e k) with
  |.aO i,some (kt,_),some kk=>match H[i]? with
   |some (.map es)=>if kX P kt kk=true∧cW P kt es=true then some (.top,H.set i (.map (jH es kk (bK e x))),T) else none
   |_=>none
  |_,_,_=>none
 |.entry x=>match bK e x with
  |.ptr i 0=>match H[i]? with
   |some (.kK m n seen)=>match H[m]?,seen.getLast? with
    |some (.map es),some j=>if n=es.length then (es[j]?).map fun kv=>(.df [kv.1.av,kv.2],H,T) else none
    |_,_=>none
   |_=>none
  |_=>none
 |.next x true=>match bK e x with
  |.ptr i 0=>match H[i]? with
   |some (.iter s pos)=>if pos<s.length then some (.df [.bool true,.int .i64 pos,.int .i32 (Utf8.decode ⟨s.toArray⟩ pos).1],H.set i (.iter s (pos+(Utf8.decode ⟨s.toArray⟩ pos).2)),T)
    else some (.df [.bool false],H,T)
   |_=>none
  |_=>none
 |.call { callee:=.builtin b,args,argTypes }=>rn P b argTypes (args.toList.map (bK e)) H T
 |_=>none
theorem Good.of {x:Sem Value}{y:Sem Next}{r:AV}{H':List aA}{T':ar}(hy:y=(do pure (Next.value (←x))))(h:∃cv w' L',x.run P w=.ok cv w'∧bT L' H' T' w'∧bc L' H'.length T' w' r cv∧Ev H.length T.length L H.length T w L' H'.length T' w') :
  Good P y H T L w r H' T':=by
 obtain⟨cv,w',L',h1,h2,h3,h4⟩:=h;exact⟨.value cv,cv,w',L',by rw[hy];simp only[Sem.run_bind,h1,Result.andThen_ok];rfl,.inl rfl,h2,h3,h4⟩
theorem Good.same {x:Sem Value}{y:Sem Next}{r:AV}(hy:y=(do pure (Next.value (←x))))(hc:bT L H T w)(h:∃cv,x.run P w=.ok cv w∧bc L H.length T w r cv):Good P y H T L w r H T:=by
 obtain⟨cv,h1,h2⟩:=h;exact Good.of hy ⟨cv,w,L,h1,hc,h2,Ev.refl (le_refl _) (le_refl _)⟩
theorem rV {a:Act}{e:Env}(he:ew L H.length T w e a)(ps:Array (Nat×Operand)) :
  (ps.map fun(x:Nat×Operand)=>match x with|(i,x)=>(i,a.eval x)).size=(ps.toList.map fun(x:Nat×Operand)=>(x.1,bK e x.2)).length∧
  ∀(j:Nat) (h:j<(ps.toList.map fun(x:Nat×Operand)=>(x.1,bK e x.2)).length) (h':j<(ps.map fun(x:Nat×Operand)=>match x with|(i,x)=>(i,a.eval x)).toList.length),
   ((ps.toList.map fun(x:Nat×Operand)=>(x.1,bK e x.2))[j]'h).1=((ps.map fun(x:Nat×Operand)=>match x with|(i,x)=>(i,a.eval x)).toList[j]'h').1∧
   bc L H.length T w ((ps.toList.map fun(x:Nat×Operand)=>(x.1,bK e x.2))[j]'h).2 ((ps.map fun(x:Nat×Operand)=>match x with|(i,x)=>(i,a.eval x)).toList[j]'h').2:=by
 refine⟨by simp,fun j h h'=>?_⟩;simp only[getElem_map,Array.toList_map];exact⟨by first|rfl|trivial,he.bK _⟩
theorem za {b:Builtin}{ts:List TypeId}{ty:TypeId}{A:List AV}{B:List Value}{cst:Array Bool}{r:AV}{H':List aA}{T':ar}(hc:bT L H T w)(h:rn P b ts.toArray A H T=some (r,H',T'))
  (hl:B.length=A.length) (hr:∀(j:Nat)(h:j<A.length)(h':j<B.length),bc L H.length T w (A[j]'h) (B[j]'h')):Good P (builtin b ts.toArray ty cst B.toArray) H T L w r H' T':=by
 have one:∀{x:Option AV} {y:AV×List aA×ar},x.map (fun v=>(v,H,T))=some y→∃v,x=some v∧y=(v,H,T):=by
  intro x y hx
  cases x with
  |none=>cases hx
  |some v=>exact⟨v,rfl,by cases hx;rfl⟩
 unfold rn at h
 split at h
 ·rename_i t x zz;have pP:ts=[t]:=zz;subst pP;obtain⟨v,hv,e1⟩:=one h
  cases e1
  match B,hl,hr with
  |[c],_,hr=>
   have h0:=hr 0 (by simp) (by simp);simp only[getElem_cons_zero] at h0;exact Good.same (x:=Builtin.len_ #[t] ty #[c]) rfl hc (Nt hv h0)
 ·rename_i t t2 s x zz;have pP:ts=[t,t2]:=zz;subst pP
  split at h
  ·rename_i i o n;obtain⟨v,hv,e1⟩:=one h
   cases e1
   match B,hl,hr with
   |[c,d],_,hr=>
    have h0:=hr 0 (by simp) (by simp);have h1:=hr 1 (by simp) (by simp);simp only[getElem_cons_zero,List.getElem_cons_succ] at h0 h1;exact Good.same (x:=Builtin.append_ #[t,t2] ty #[c,d]) rfl hc (KA hc hv h0 h1)
  ·cases ha:qP P H T t t2 s x with
   |none=>rw[ha] at h;cases h
   |some y=>
    obtain⟨v,Tn⟩:=y;rw[ha] at h
    cases h
    match B,hl,hr with
    |[c,d],_,hr=>
     have h0:=hr 0 (by simp) (by simp);have h1:=hr 1 (by simp) (by simp);simp only[getElem_cons_zero,List.getElem_cons_succ] at h0 h1;exact Good.of (x:=Builtin.append_ #[t,t2] ty #[c,d]) rfl (DD hc ha h0 h1)
 ·obtain⟨v,hv,e1⟩:=one h
  cases e1
  exact Good.same (x:=Builtin.max_ ts.toArray ty B.toArray) rfl hc (EX (P:=P) (ty:=ty) (ts:=ts.toArray) true _ B r hv hl hr)
 ·obtain⟨v,hv,e1⟩:=one h
  cases e1
  exact Good.same (x:=Builtin.min_ ts.toArray ty B.toArray) rfl hc (EX (P:=P) (ty:=ty) (ts:=ts.toArray) false _ B r hv hl hr)
 ·rename_i t x zz;have pP:ts=[t]:=zz;subst pP
  cases ha:uM P H t x with
  |none=>rw[ha] at h;cases h
  |some Hn=>
   rw[ha] at h
   cases h
   match B,hl,hr with
   |[c],_,hr=>
    have h0:=hr 0 (by simp) (by simp);simp only[getElem_cons_zero] at h0;exact Good.of (x:=Builtin.clear_ #[t] ty #[c]) rfl (G0 hc ha h0)
 ·cases h
theorem x6 {o:Oper}{e:Env}{a:Act}{r:AV}{H':List aA}{T':ar}(hc:bT L H T w)(he:ew L H.length T w e a)(h:EC P o e H T=some (r,H',T')):Good P (execOp a.eval o) H T L w r H' T':=by
 obtain⟨dst,op,type,pos,after,guard⟩:=o;have one:∀{x:Option AV} {y:AV×List aA×ar},x.map (fun v=>(v,H,T))=some y→∃v,x=some v∧y=(v,H,T):=by
  intro x y hx
  cases x with
  |none=>cases hx
  |some v=>exact⟨v,rfl,by cases hx;rfl⟩
 cases op<;>simp only[EC,reduceCtorEq] at h
 case move x=>cases h;exact Good.now hc rfl (he.bK x)
 case assign x=>cases h;exact Good.now hc rfl (he.bK x)
 case pick c x y=>
  split at h
  ·rename_i t ht
   cases h
   have hb:=he.bK c;rw[ht] at hb;refine Good.same (x:=do pure (if←asBool (a.eval c) then a.eval x else a.eval y)) (by simp[execOp]) hc ⟨if t then a.eval x else a.eval y,by rw[hb.iC];rfl,?_⟩
   cases t
   ·exact he.bK y
   ·exact he.bK x
  ·cases h
 case alloc t=>
  cases hz:br P t with
  |none=>rw[hz] at h;cases h
  |some zs=>
   rw[hz] at h
   cases h
   obtain⟨i,z,hi,rv,hr,_⟩:=dO (L:=L) (N:=H.length) (T:=T) (w:=w) hz;obtain⟨L',h1,h2,h3⟩:=hc.pY z.cells t hr;refine Good.of (x:=Instr.alloc t true (.tuple #[])) rfl ⟨.pointer (some ⟨w.heap.size,0,none⟩),_,L',?_,h1,?_,h2⟩
   ·simp only[Instr.alloc,Sem.run_bind,jo hi rv,Result.andThen_ok];rfl
   ·rw[←h3];exact .ptr _ _ (by simp)
 case box t x=>
  cases hz:PK (bK e x) with
  |none=>rw[hz] at h;cases h
  |some xs=>
   rw[hz] at h
   cases h
   have hr:=y3 hz (he.bK x);obtain⟨L',h1,h2,h3⟩:=hc.pY (a.eval x).cells t hr;refine Good.of (x:=Instr.box t (a.eval x)) rfl ⟨.pointer (some ⟨w.heap.size,0,none⟩),_,L',?_,h1,?_,h2⟩
   ·rfl
   ·rw[←h3];exact .ptr _ _ (by simp)
 case build t ps=>
  obtain⟨v,hv,e1⟩:=one h
  cases e1
  obtain⟨g1,g2⟩:=rV he ps;exact Good.same rfl hc (run_build hv g1 g2)
 case buildSlice t n ps=>
  obtain⟨v,hv,e1⟩:=one h
  cases e1
  obtain⟨g1,g2⟩:=rV he ps;exact Good.of rfl (vG hc hv g1 g2)
 case load t x=>
  split at h
  ·rename_i vs o rE;obtain⟨v,hv,e1⟩:=one h
   cases e1
   obtain⟨b,base,cv,e2,hr,ki⟩:=vC hc (he.bK x) rE;obtain⟨c,h1,h2⟩:=sE (P:=P) hr ki hv;refine Good.same (x:=Instr.loadAt t (a.eval x)) rfl hc ⟨c,?_,h2⟩;rw[e2];exact h1
  ·cases h
 case store t x y=>
  split at h
  ·rename_i i o xs hx hy
   split at h
   ·rename_i vs hi
    split at h
    ·rename_i hb
     cases h
     obtain⟨hl,hle,hu⟩:=hb;obtain⟨d,hd⟩:=Option.isSome_iff_exists.1 hu;have hp:=he.bK x;rw[hx] at hp;obtain⟨e2,aZ⟩:=hp.mA;have hr:=y3 hy (he.bK y);obtain⟨w',h1,h2,h3⟩:=lL (P:=P) (L:=L) (T:=T) i o xs (a.eval y).cells.toList 0 H w vs hc hr hi (by simpa using hle);have iQ:(a.eval y).cells.size=P.cellsOf t:=by have:=hr.1;simp at this;omega
     refine⟨.skip,undef,w',L,?_,.inr ⟨rfl,rfl⟩,h2,.top _,h3⟩;have:(Instr.storeAt t (a.eval x) (a.eval y)).run P w=.ok () w':=by
      rw[e2];simp only[Instr.storeAt,Instr.sureAddr,pure_bind,storeVar,Sem.run_bind,cI hd,Result.andThen_ok,iQ,ne_eq,not_true_eq_false,if_false];exact h1
     simp only[execOp,Sem.run_bind,this,Result.andThen_ok];rfl
    ·cases h
   ·cases h
  ·cases h
 case nilCheck x=>
  have hp:=he.bK x
  split at h
  ·rename_i i o hx
   cases h
   rw[hx] at hp;obtain⟨e2,aZ⟩:=hp.mA;refine Good.now hc ?_ (e2▸hp);simp only[execOp,e2];rfl
  ·rename_i cs o hx
   cases h
   rw[hx] at hp;generalize SM:a.eval x=cx at hp
   cases hp with
   |dK _ _ b base f hm ZB h1 hr=>
    refine Good.now hc ?_ (.dK cs o b base f hm ZB h1 hr);simp only[execOp,SM];rfl
  ·rename_i f fa ca hx
   cases h
   rw[hx] at hp;generalize SM:a.eval x=cx at hp
   cases hp with
   |fn _ _ _ fv cv h1 h2 vV mN=>
    refine Good.now hc ?_ (.fn f fa ca fv cv h1 h2 vV mN);simp only[execOp,SM];rfl
  ·cases h
 case binOp op t x y yt=>
  split at h
  ·rename_i v hv
   cases h
   obtain⟨cv,h1,h2⟩:=G5 hv (he.bK x);exact Good.same (x:=(do eqGuard op t x y (a.eval x) (a.eval y);binOp op t (a.eval x) (a.eval y))) rfl hc ⟨cv,h1,h2 _ _ _ _⟩
  split at h
  ·rename_i ht;obtain⟨v,hv,e1⟩:=one h
   cases e1
   obtain⟨cv,h1,h2⟩:=KG t hv ht (he.bK x) (he.bK y) x y;exact Good.same (x:=(do eqGuard op t x y (a.eval x) (a.eval y);binOp op t (a.eval x) (a.eval y))) rfl hc ⟨cv,h1,h2 _ _ _ _⟩
  ·obtain⟨v,hv,e1⟩:=one h
   cases e1
   obtain⟨cv,h1,h2⟩:=G7 hv (he.bK x) (he.bK y) x y;exact Good.same (x:=(do eqGuard op t x y (a.eval x) (a.eval y);binOp op t (a.eval x) (a.eval y))) rfl hc ⟨cv,h1,h2 _ _ _ _⟩
 case unOp u t x=>
  obtain⟨v,hv,e1⟩:=one h
  cases e1
  obtain⟨cv,h1,h2⟩:=Nu (P:=P) hv (he.bK x);exact Good.same rfl hc ⟨cv,h1,h2 _ _ _ _⟩
 case convert s d x=>
  split at h
  ·rename_i el b h1 h2 h3
   split at h
   ·rename_i h4
    cases h
    have hb:=he.bK x;rw[h3] at hb;exact Good.of rfl (G4 hc h1 h2 h4 hb)
   ·cases h
  ·obtain⟨v,hv,e1⟩:=one h
   cases e1
   exact Good.same rfl hc (Kx hc hv (he.bK x))
 case makeFunc fn first db=>
  cases fn<;>simp only[reduceCtorEq] at h
  rename_i f
  cases h
  refine Good.now hc rfl (.fn f _ _ _ _ (by simp) (by simp) (fun j hj bR=>?_) (fun j hj bR=>?_))
  ·simp only[getElem_map,Array.getElem_map,Array.getElem_toList];exact he.bK _
  ·simp only[getElem_map,Array.getElem_map,Array.getElem_toList];exact he.bK _
 case makeSlice t l c=>
  split at h
  ·rename_i el k1 x k2 y hu hl cg
   split at h
   ·rename_i zs hz
    split at h
    ·rename_i hb;obtain⟨b1,b2,b3,b4,b5⟩:=hb;have rl:=he.bK l;have rc:=he.bK c;rw[hl] at rl;rw[cg] at rc
     split at h
     ·rename_i hs
      cases h
      have Cy:a.eval l=a.eval c:=by
       unfold yN at hs
       split at hs
       ·simp at hs;rw[hs]
       ·simp at hs;rw[hs.1,hs.2]
       ·cases hs
      have ey:=rc.dC;have:=BP (t:=t) hc hu hz b1 k2 k2 y.toNat b3 b4;rw[Int.toNat_of_nonneg b2] at this;refine Good.of (x:=Instr.makeSlice t (a.eval l) (a.eval c)) rfl ?_;rw[Cy,ey];exact this
     ·split at h
      ·rename_i hx0
       cases h
       subst hx0;have ey:=rc.dC;have ex:=rl.dC;have:=BO (t:=t) hc hu hz b5 k1 k2 y.toNat b3 b4;rw[Int.toNat_of_nonneg b2] at this;refine Good.of (x:=Instr.makeSlice t (a.eval l) (a.eval c)) rfl ?_;rw[ex,ey];exact this
      ·cases h
    ·cases h
   ·cases h
  ·cases h
 case slice t x lo hi mx=>
  obtain⟨v,hv,e1⟩:=one h
  cases e1
  have CN:∀(q:Option Operand) v cv,q.map (bK e)=some v→q.map a.eval=some cv→bc L H.length T w v cv:=by
   intro q v cv h1 h2
   cases q with
   |none=>cases h1
   |some q=>cases h1;cases h2;exact he.bK q
  exact Good.same rfl hc (GW hv (he.bK x) (CN lo) (CN hi) (CN mx) (by simp) (by simp) (by simp))
 case fieldAddr t x f=>
  obtain⟨v,hv,e1⟩:=one h
  cases e1
  exact Good.same rfl hc (BS hv (he.bK x))
 case field t x f=>
  obtain⟨v,hv,e1⟩:=one h
  cases e1
  exact Good.same rfl hc (GZ hv (he.bK x))
 case indexAddr t x i=>
  obtain⟨v,hv,e1⟩:=one h
  cases e1
  exact Good.same rfl hc (BR hv (he.bK x) (he.bK i))
 case index t x i=>
  obtain⟨v,hv,e1⟩:=one h
  cases e1
  exact Good.same rfl hc (GY hv (he.bK x) (he.bK i))
 case extract x i=>
  split at h
  ·rename_i vs hx
   split at h
   ·rename_i aZ
    cases h
    have hp:=he.bK x;rw[hx] at hp;generalize SM:a.eval x=cx at hp
    cases hp with
    |df _ cv h1 hr=>
     have nu:i<cv.size:=by omega
     refine Good.same (x:=Instr.extract (a.eval x) i) rfl hc ⟨cv[i],?_,?_⟩
     ·rw[SM];simp only[Instr.extract,Array.getElem?_eq_getElem nu];rfl
     ·rw[getD_eq_getElem?_getD,getElem?_eq_getElem aZ];exact hr i aZ nu
   ·cases h
  ·cases h
 case range t x=>
  split at h
  ·rename_i s hx
   split at h
   ·rename_i hu
    cases h
    have hp:=he.bK x;rw[hx] at hp;obtain⟨L',h1,h2,h3⟩:=hc.NL s;refine Good.of (x:=Instr.range t (a.eval x)) rfl ⟨.pointer (some ⟨w.heap.size,0,none⟩),_,L',?_,h1,?_,h2⟩
    ·rw[hp.gK];simp only[Instr.range,Sem.run_bind,run_underlying hu,Result.andThen_ok];rfl
    ·rw[←h3];exact .ptr _ _ (by simp)
   ·cases h
  ·rename_i m hx
   split at h
   ·rename_i y es hT hm
    cases h
    obtain⟨kt,el⟩:=y;have hp:=he.bK x;rw[hx] at hp;obtain⟨cv,w',L',h1,h2,h3,h4⟩:=Dy hc hT hm;refine Good.of (x:=Instr.range t (a.eval x)) rfl ⟨cv,w',L',?_,h2,h3,h4⟩;rw[hp.uU.1];exact h1
   ·cases h
  ·cases h
 case makeMap t r=>
  cases r<;>simp only[reduceCtorEq] at h
  cases h
  obtain⟨cv,w',L',h1,h2,h3,h4⟩:=run_makeMap hc t;exact Good.of (x:=Instr.makeMap t none) rfl ⟨cv,w',L',h1,h2,h3,h4⟩
 case lookup t x i ok=>
  split at h
  ·rename_i m kt el k hx hT hk
   split at h
   ·rename_i es z hm hz
    split at h
    ·rename_i hf
     cases h
     have hp:=he.bK x;rw[hx] at hp;obtain⟨cv,h1,h2⟩:=DB hc ok hT hm hz hf.1 hf.2;refine Good.same (x:=Instr.lookup t (a.eval x) (a.eval i) ok) rfl hc ⟨cv,?_,h2⟩;rw[hp.uU.1,xA hk (he.bK i)];exact h1
    ·cases h
   ·cases h
  ·cases h
 case mapUpdate t m k x=>
  split at h
  ·rename_i i kt el kk hx hT hk
   split at h
   ·rename_i es hm
    split at h
    ·rename_i hf
     cases h
     have hp:=he.bK m;rw[hx] at hp;obtain⟨w',h1,h2,h3⟩:=wq hc hT hm (he.bK x) hf.1 hf.2;refine⟨.skip,undef,w',L,?_,.inr ⟨rfl,rfl⟩,h2,.top _,h3⟩;have:(Instr.mapUpdate t (a.eval m) (a.eval k) (a.eval x)).run P w=.ok () w':=by
      rw[hp.uU.1,xA hk (he.bK k)];exact h1
     simp only[execOp,Sem.run_bind,this,Result.andThen_ok];rfl
    ·cases h
   ·cases h
  ·cases h
 case entry x=>
  split at h
  ·rename_i i hx;have hp:=he.bK x;rw[hx] at hp;obtain⟨e2,aZ⟩:=hp.mA
   split at h
   ·rename_i m n seen hi
    split at h
    ·rename_i es j hm hl
     split at h
     ·rename_i hn;subst hn;obtain⟨kv,hkv,e1⟩:=Option.map_eq_some_iff.1 h
      cases e1
      obtain⟨hj,rfl⟩:=List.getElem?_eq_some_iff.1 hkv;obtain⟨s0,rfl⟩:=List.getLast?_eq_some_iff.1 hl;obtain⟨cv,h1,h2⟩:=DA hc hi hm hj;refine Good.same (x:=Instr.entry (a.eval x)) rfl hc ⟨cv,?_,h2⟩;rw[e2];exact h1
     ·cases h
    ·cases h
   ·cases h
  ·cases h
 case next x s=>
  cases s<;>simp only[reduceCtorEq] at h
  split at h
  ·rename_i i hx;have hp:=he.bK x;rw[hx] at hp;obtain⟨e2,aZ⟩:=hp.mA
   split at h
   ·rename_i s pos hi;have hb:w.heap[L.bN i]?=some (.stringIter ⟨s.toArray⟩ pos):=hc.box i _ hi;have iQ:(⟨s.toArray⟩:ByteArray).size=s.length:=by simp[ByteArray.size]
    split at h
    ·rename_i ji
     cases h
     obtain⟨h1,h2⟩:=hc.setIter (pos':=pos+(Utf8.decode ⟨s.toArray⟩ pos).2) hi;refine Good.of (x:=Instr.next (a.eval x) true type) rfl ⟨.tuple #[.bool true,goInt pos,.int .i32 (Utf8.decode ⟨s.toArray⟩ pos).1],_,L,?_,h1,?_,h2⟩
     ·rw[e2];simp[Instr.next,getObj,setObj,Sem.run,hb,iQ,ji]
     ·refine .df _ _ rfl (fun j hj bR=>?_)
      match j,hj with
      |0,_=>exact .bool _
      |1,_=>exact .int _ _
      |2,_=>exact .int _ _
    ·rename_i ji
     cases h
     refine Good.same (x:=Instr.next (a.eval x) true type) rfl hc ⟨.tuple #[.bool false],?_,?_⟩
     ·rw[e2];simp[Instr.next,getObj,Sem.run,hb,iQ,ji]
     ·refine .df _ _ rfl (fun j hj bR=>?_)
      match j,hj with
      |0,_=>exact .bool _
   ·cases h
  ·cases h
 case call c=>
  obtain⟨callee,args,zu⟩:=c
  cases callee<;>simp only[reduceCtorEq] at h
  rename_i b;obtain⟨ts⟩:=zu;obtain⟨args⟩:=args;have:=za (ty:=type) (cst:=args.toArray.map fun|.const _=>true|_=>false) (B:=args.map a.eval) hc h (by simp) (fun j hj bR=>by
   simp only[getElem_map];exact he.bK _)
  have e1:execOp a.eval ⟨dst,.call ⟨.builtin b,args.toArray,ts.toArray⟩,type,pos,after,guard⟩=builtin b ts.toArray type (args.toArray.map fun|.const _=>true|_=>false) (args.map a.eval).toArray:=by
   simp[execOp,resolve,invoke];rfl
  rw[←e1] at this;exact this
end
def LR (L:Lay)(H:List aA)(T:ar)(w:World)(Q:AV→List aA→ar→Prop)(e:Ending)(w':World):Prop:=
 ∃r H' T' L' cv,Q r H' T'∧e=.returned cv∧bT L' H' T' w'∧bc L' H'.length T' w' r cv∧Ev H.length T.length L H.length T w L' H'.length T' w'
def aq (P:Program)(f:FuncId)(args:List AV)(H:List aA)(T:ar)(Q:AV→List aA→ar→Prop):Prop:=
 (∀as w,(callFunc f as).run P w=.ok (.enter f as) w)∧
 ∀L w (ca:Array Value),bT L H T w→ca.size=args.length→(∀(j:Nat)(h:j<args.length)(h':j<ca.size),bc L H.length T w (args[j]'h) (ca[j]'h'))→
  Calls P f ca w (LR L H T w Q)
theorem aq.mono {P f args H T Q Q'}(h:aq P f args H T Q)(hq:∀r H' T',Q r H' T'→Q' r H' T'):aq P f args H T Q':=
 ⟨h.1,fun L w ca hc hl hr=>(h.2 L w ca hc hl hr).mono fun _ _ ⟨r,H',T',L',cv,q,k⟩=>⟨r,H',T',L',cv,hq _ _ _ q,k⟩⟩
def Is (r:AV)(H:List aA)(T:ar):AV→List aA→ar→Prop:=fun r' H' T'=>r'=r∧H'=H∧T'=T
def prune (nv:Nat):Env→Env
 |[]=>[]
 |(s,v)::r=>if s<nv then (s,v)::prune nv r else prune nv r
theorem mH (nv:Nat)(e:Env)(t:Nat):bF (prune nv e) t=bF e t∨bF (prune nv e) t=.top:=by
 by_cases ht:t<nv
 ·left
  induction e with
  |nil=>rfl
  |cons x r ih=>
   obtain⟨s,v⟩:=x
   by_cases hs:s<nv
   ·simp[prune,bF,hs,ih]
   ·have:s≠t:=by omega
    simp[prune,bF,hs,ih,this]
 ·right
  induction e with
  |nil=>rfl
  |cons x r ih=>
   obtain⟨s,v⟩:=x
   by_cases hs:s<nv
   ·have:s≠t:=by omega
    simp[prune,bF,hs,ih,this]
   ·simp[prune,hs,ih]
def fJ (o:Oper)(e:Env):Option (FuncId×List AV):=
 match o.op with
 |.call { callee:=.value f,args,argTypes:=_ }=>match bK e f with
  |.fn g first db=>some (g,first++args.toList.map (bK e)++db)
  |_=>none
 |_=>none
def kN (C:Cx)(dst:Option Tmp)(v:AV)(e:Env)(H:List aA)(T:ar)(K:St→Prop):Prop:=
 match dst with
 |some d=>d<C.nt∧K ⟨mo e d v,H,T⟩
 |none=>K ⟨e,H,T⟩
def tZ (C:Cx)(K:St→Prop)(dst:Option Tmp)(g:FuncId)(as:List AV)(s:St):Prop:=
 ∃Q,aq C.P g as s.H s.T Q∧∀v H' T',Q v H' T'→kN C dst v s.e H' T' K
def zS (L:Lay)(N:Nat)(T:ar)(w:World)(vs:List AV)(c:List Value):Prop:=
 c.length=vs.length∧∀(j:Nat)(h:j<vs.length)(h':j<c.length),bc L N T w (vs[j]'h) (c[j]'h')
theorem zS.append {L:Lay}{N:Nat}{T:ar}{w:World}{a b:List AV}{c d:List Value}(h:zS L N T w a c)(k:zS L N T w b d):zS L N T w (a++b) (c++d):=by
 refine⟨by simp[h.1,k.1],fun j hj bR=>?_⟩;rw[List.getElem_append,List.getElem_append]
 by_cases aZ:j<a.length
 ·rw[dif_pos aZ,dif_pos (by rw[h.1];exact aZ)];exact h.2 _ _ _
 ·rw[dif_neg aZ,dif_neg (by rw[h.1];exact aZ)];have:=k.2 (j-a.length) (by simp at hj;omega) (by simp at bR;rw[h.1] at bR;omega);simpa[h.1] using this
def jN (all:Array Oper)(j:Nat)(e:Env):Option (Option Bool):=
 match (all[j]?).bind (·.dst) with
 |some d=>match bF e d with
  |.bool b=>some (some b)
  |.df []=>some none
  |_=>none
 |none=>none
def Gg (P:Program)(o:Oper)(e:Env):Option (Nat×Bool):=
 match o.op with
 |.binOp op t x (.const (.slice none _ _)) _=>match P.underlying t,bK e x,op with
  |some (.slice _),.sl n _ _,.eql=>some (n,true)
  |some (.slice _),.sl n _ _,.neq=>some (n,false)
  |some (.slice _),.bV _ _ n,.eql=>some (n,true)
  |some (.slice _),.bV _ _ n,.neq=>some (n,false)
  |_,_,_=>none
 |_=>none
theorem KB {P:Program}{o:Oper}{e:Env}{a:Act}{n:Nat}{q:Bool}{L:Lay}{N:Nat}{T:ar}{w:World}(h:Gg P o e=some (n,q))(he:ew L N T w e a) :
  ∃b:Bool,(0<n→b=!q)∧(execOp a.eval o).run P w=.ok (.value (.bool b)) w:=by
 unfold Gg at h
 split at h
 ·rename_i op t x l c y ho;have hx:=he.bK x;have core:∀(op:BinOp)(n cap:Nat)(ad:Option Addr)(el:TypeId),P.underlying t=some (.slice el)→a.eval x=.slice ad n cap→(0<n→ad.isNone=false)→(op=.eql∨op=.neq)→o.op=.binOp op t x (.const (.slice none l c)) y→∃b:Bool,(0<n→b=!(op==.eql))∧(execOp a.eval o).run P w=.ok (.value (.bool b)) w:=by
   intro op n cap ad el hu hv Rm lq ho;have hg:(eqGuard op t x (.const (.slice none l c)) (a.eval x) (a.eval (.const (.slice none l c)))).run P w=.ok () w:=mU op t _ _ _ _ (by rw[hv];exact⟨fun _ e=>(by cases e),fun e=>(by cases e)⟩);have heq:∀d:Nat,(Op.equalIn (d+1) t (.slice ad n cap) (.slice none l c)).run P w=.ok ad.isNone w:=by
    intro d
    cases ad<;>simp only[Op.equalIn,Sem.run_bind,run_underlying hu,Result.andThen_ok]<;>rfl
   have cK:=jQ (P:=P) (w:=w) t (.slice ad n cap) (.slice none l c) ad.isNone op lq rfl rfl heq;refine⟨if op=.eql then ad.isNone else !ad.isNone,fun hn=>?_,?_⟩
   ·have:=Rm hn;rcases lq with rfl|rfl<;>simp[this]
   ·rw[hv] at hg;have vM:a.eval (.const (.slice none l c))=.slice none l c:=rfl;rw[vM] at hg;simp only[execOp,ho,Sem.run_bind,hv,vM,hg,Result.andThen_ok,cK];rfl
  have fin:∀(op:BinOp)(n:Nat)(cs:List AV)(tg:Tag)(el:TypeId),P.underlying t=some (.slice el)→bK e x=.sl n cs tg→(op=.eql∨op=.neq)→o.op=.binOp op t x (.const (.slice none l c)) y→∃b:Bool,(0<n→b=!(op==.eql))∧(execOp a.eval o).run P w=.ok (.value (.bool b)) w:=by
   intro op n cs tg el hu hs lq ho;rw[hs] at hx;obtain⟨ad,cap,hv,_,_,vY⟩:=hx.eO;refine core op n cap ad el hu hv (fun hn=>?_) lq ho;rcases vY with⟨_,h0⟩|⟨b,base,cv,e1,_⟩
   ·omega
   ·rw[e1];rfl
  have wi:∀(op:BinOp)(i p n:Nat)(el:TypeId),P.underlying t=some (.slice el)→bK e x=.bV i p n→(op=.eql∨op=.neq)→o.op=.binOp op t x (.const (.slice none l c)) y→∃b:Bool,(0<n→b=!(op==.eql))∧(execOp a.eval o).run P w=.ok (.value (.bool b)) w:=by
   intro op i p n el hu hs lq ho;rw[hs] at hx;obtain⟨cap,hv,_,_⟩:=hx.jb;exact core op n cap _ el hu hv (fun _=>rfl) lq ho
  split at h
  ·rename_i el n' cs tg hu hs
   cases h
   obtain⟨b,h1,h2⟩:=fin .eql _ _ _ _ hu hs (.inl rfl) ho;exact⟨b,fun hn=>h1 hn,h2⟩
  ·rename_i el n' cs tg hu hs
   cases h
   obtain⟨b,h1,h2⟩:=fin .neq _ _ _ _ hu hs (.inr rfl) ho;exact⟨b,fun hn=>h1 hn,h2⟩
  ·rename_i el i' p' n' hu hs
   cases h
   obtain⟨b,h1,h2⟩:=wi .eql _ _ _ _ hu hs (.inl rfl) ho;exact⟨b,fun hn=>h1 hn,h2⟩
  ·rename_i el i' p' n' hu hs
   cases h
   obtain⟨b,h1,h2⟩:=wi .neq _ _ _ _ hu hs (.inr rfl) ho;exact⟨b,fun hn=>h1 hn,h2⟩
  ·cases h
 ·cases h
def Gi (P:Program)(bx:List Nat)(o:Oper)(e:Env)(H:List aA):Option (Nat×List AV):=
 match o.op,o.dst with
 |.call { callee:=.builtin .append,args,argTypes },some d=>
  if bx.contains d=true then
   match argTypes.toList,args.toList.map (bK e) with
   |[t,t2],[s,x]=>mC P H t t2 s x
   |_,_=>none
  else none
 |.buildSlice t n ps,some d=>if bx.contains d=true then (mf P t n (ps.toList.map fun(x:Nat×Operand)=>(x.1,bK e x.2))).map fun ys=>(n,ys) else none
 |_,_=>none
theorem KF {P:Program}{bx:List Nat}{o:Oper}{e:Env}{a:Act}{L:Lay}{H:List aA}{T:ar}{w:World}{m:Nat}{ys:List AV}(h:Gi P bx o e H=some (m,ys))(hc:bT L H T w)(he:ew L H.length T w e a) :
  ∃k cv w' L',(execOp a.eval o).run P w=.ok (.value cv) w'∧bT L' (H++[.cells (ys++List.replicate k .top)]) T w'∧bc L' (H++[aA.cells (ys++List.replicate k .top)]).length T w' (.bV H.length 0 m) cv∧
   Ev H.length T.length L H.length T w L' (H++[aA.cells (ys++List.replicate k .top)]).length T w':=by
 obtain⟨dst,op,type,pos,after,guard⟩:=o;unfold Gi at h
 split at h
 ·rename_i args zu d' lq hd;simp only at lq;subst lq
  split at h
  ·split at h
   ·rename_i t t2 s x zz eu;have pP:zu=#[t,t2]:=by rw[←Array.toList_inj];exact zz
    subst pP
    match Ey:args.toList,eu with
    |[p,q],eu=>
     simp only[map_cons,map_nil,List.cons.injEq,and_true] at eu;obtain⟨e1,e2⟩:=eu;have h0:=he.bK p;have h1:=he.bK q;rw[e1] at h0;rw[e2] at h1;obtain⟨k,cv,w',L',cK,g1,g2,g3⟩:=DE (ty:=type) hc h h0 h1;refine⟨k,cv,w',L',?_,g1,g2,g3⟩;have mv:args=#[p,q]:=by rw[←Array.toList_inj];exact Ey
     subst mv;simp only[execOp,resolve,Sem.run_bind,Sem.run_pure,Result.andThen_ok,invoke,builtin,map_toArray,map_cons,map_nil,cK]
   ·cases h
  ·cases h
 ·rename_i t n ps d' lq hd;simp only at lq;subst lq
  split at h
  ·cases hb:mf P t n (ps.toList.map fun(x:Nat×Operand)=>(x.1,bK e x.2)) with
   |none=>rw[hb] at h;cases h
   |some ys0=>
    rw[hb] at h
    cases h
    obtain⟨g1,g2⟩:=rV he ps;obtain⟨cv,w',L',cK,k1,k2,k3⟩:=y9 hc hb g1 g2;refine⟨0,cv,w',L',?_,by simpa using k1,by simpa using k2,by simpa using k3⟩;show Sem.run P (do pure (Next.value (←Instr.buildSlice t _ (ps.map fun(x:Nat×Operand)=>(x.1,a.eval x.2))))) w=_;simp only[Sem.run_bind,cK,Result.andThen_ok,Sem.run_pure]
  ·cases h
 ·cases h
def qv (o:Oper)(e:Env):Option (TypeId×TypeId×Nat×Nat×Nat×AV):=
 match o.op with
 |.call { callee:=.builtin .append,args,argTypes }=>
  match argTypes.toList,args.toList.map (bK e) with
  |[t,t2],[.bJ i n cap,x]=>some (t,t2,i,n,cap,x)
  |_,_=>none
 |_=>none
def Qu (C:Cx)(K:St→Prop)(dst:Option Tmp)(t t2:TypeId)(i n cap:Nat)(x:AV)(e:Env)(H:List aA)(T:ar):Prop:=
 ∃(el:TypeId) (vs xs:List AV) (m:Nat),C.P.underlying t=some (.slice el)∧H[i]?=some (.cells vs)∧vs.length=cap*C.P.cellsOf el∧fN H (C.P.cellsOf el) x=some (m,xs)∧(n+m)*C.P.bytesOf el≤140737488355328∧n+m≤9223372036854775807∧
  iS C.P t2=true∧(br C.P el).isSome=true∧
  (n+m≤cap→kN C dst (.bJ i (n+m) cap) e (H.set i (.cells (vs.take (n*C.P.cellsOf el)++xs++vs.drop ((n+m)*C.P.cellsOf el)))) T K)∧
  ∀nc,cap<n+m→n+m≤nc→kN C dst (.bJ H.length (n+m) nc) e (H++[.cells (vs.take (n*C.P.cellsOf el)++xs++List.replicate ((nc-(n+m))*C.P.cellsOf el) .top)]) T K
def jD (P:Program)(bx:List Nat)(o:Oper)(e:Env)(H:List aA):Option (Nat×List AV×Nat):=
 match o.op,o.dst with
 |.call { callee:=.builtin .append,args,argTypes },some d=>
  if bx.contains (d+100000)=true then
   match argTypes.toList,args.toList.map (bK e) with
   |[t,t2],[s,x]=>match P.underlying t,mC P H t t2 s x with
    |some (.slice el),some (m,ys)=>some (m,ys,P.cellsOf el)
    |_,_=>none
   |_,_=>none
  else none
 |_,_=>none
theorem xe {P:Program}{bx:List Nat}{o:Oper}{e:Env}{a:Act}{L:Lay}{H:List aA}{T:ar}{w:World}{m z:Nat}{ys:List AV}(h:jD P bx o e H=some (m,ys,z))(hc:bT L H T w)(he:ew L H.length T w e a) :
  ∃nc,m≤nc∧∃cv w' L',(execOp a.eval o).run P w=.ok (.value cv) w'∧bT L' (H++[.cells (ys++List.replicate ((nc-m)*z) .top)]) T w'∧bc L' (H++[aA.cells (ys++List.replicate ((nc-m)*z) .top)]).length T w' (.bJ H.length m nc) cv∧
   Ev H.length T.length L H.length T w L' (H++[aA.cells (ys++List.replicate ((nc-m)*z) .top)]).length T w':=by
 obtain⟨dst,op,type,pos,after,guard⟩:=o;unfold jD at h
 split at h
 ·rename_i args zu d' lq hd;simp only at lq;subst lq
  split at h
  ·split at h
   ·rename_i t t2 s x zz eu;have pP:zu=#[t,t2]:=by rw[←Array.toList_inj];exact zz
    subst pP
    split at h
    ·rename_i el m' ys' hu hb
     cases h
     match Ey:args.toList,eu with
     |[p,q],eu=>
      simp only[map_cons,map_nil,List.cons.injEq,and_true] at eu;obtain⟨e1,e2⟩:=eu;have h0:=he.bK p;have h1:=he.bK q;rw[e1] at h0;rw[e2] at h1;obtain⟨nc,kT,cv,w',L',cK,g1,g2,g3⟩:=BU (ty:=type) hc hb hu h0 h1;refine⟨nc,kT,cv,w',L',?_,g1,g2,g3⟩;have mv:args=#[p,q]:=by rw[←Array.toList_inj];exact Ey
      subst mv;simp only[execOp,resolve,Sem.run_bind,Sem.run_pure,Result.andThen_ok,invoke,builtin,map_toArray,map_cons,map_nil,cK]
    ·cases h
   ·cases h
  ·cases h
 ·cases h
def uK (o:Oper)(e:Env)(H:List aA):Option (Nat×Nat×Nat×List Nat×List (cN×AV)):=
 match o.op with
 |.next x false=>match bK e x with
  |.ptr i 0=>match H[i]? with
   |some (.kK m n seen)=>match H[m]? with
    |some (.map es)=>some (i,m,n,seen,es)
    |_=>none
   |_=>none
  |_=>none
 |_=>none
def ES (C:Cx)(K:St→Prop)(dst:Option Tmp)(i m n:Nat)(seen:List Nat)(es:List (cN×AV))(e:Env)(H:List aA)(T:ar):Prop:=
 n=es.length∧((∀j,j<n→j∈seen)→kN C dst (.df [.bool false]) e H T K)∧
  ∀(j:Nat)(k:cN)(v:AV),es[j]?=some (k,v)→j∉seen→kN C dst (.df [.bool true,k.av,v]) e (H.set i (.kK m n (seen++[j]))) T K
def gZ (C:Cx)(all:Array Oper)(K:St→Prop):List Oper→St→Prop
 |[],s=>K s
 |o::r,s=>
  let exec:Prop:=match fJ o s.e with
   |some (g,as)=>tZ C (gZ C all K r) o.dst g as s
   |none=>match Gg C.P o s.e with
    |some (n,q)=>∀b:Bool,(0<n→b=!q)→kN C o.dst (.bool b) s.e s.H s.T (gZ C all K r)
    |none=>match Gi C.P C.bx o s.e s.H with
     |some (m,ys)=>∀k:Nat,kN C o.dst (.bV s.H.length 0 m) s.e (s.H++[.cells (ys++List.replicate k .top)]) s.T (gZ C all K r)
     |none=>match jD C.P C.bx o s.e s.H with
      |some (m,ys,z)=>∀nc:Nat,m≤nc→kN C o.dst (.bJ s.H.length m nc) s.e (s.H++[.cells (ys++List.replicate ((nc-m)*z) .top)]) s.T (gZ C all K r)
      |none=>match qv o s.e with
       |some (t,t2,i,n,cap,x)=>Qu C (gZ C all K r) o.dst t t2 i n cap x s.e s.H s.T
       |none=>match uK o s.e s.H with
        |some (i,m,n,seen,es)=>ES C (gZ C all K r) o.dst i m n seen es s.e s.H s.T
        |none=>match EC C.P o s.e s.H s.T with
         |some (v,H',T')=>kN C o.dst v s.e H' T' (gZ C all K r)
         |none=>False
  match o.guard with
  |none=>exec
  |some (j,want)=>match jN all j s.e with
   |some b=>if b=some want then exec else kN C o.dst (.df []) s.e s.H s.T (gZ C all K r)
   |none=>False
theorem mL {L:Lay}{N:Nat}{T:ar}{w:World}{e:Env}{a:Act}{all:Array Oper}{j:Nat}{b:Option Bool}(he:ew L N T w e a)(h:jN all j e=some b):yielded all a.tmps j=b:=by
 unfold jN at h
 split at h
 ·rename_i d hd
  split at h
  ·rename_i b' hb
   cases h
   have hr:=he d;rw[hb] at hr;have:=hr.iC;unfold yielded;rw[hd];have Ue:a.tmps[d]?=some (.bool b'):=by
    simp only[Array.getD_eq_getD_getElem?] at this
    cases hx:a.tmps[d]? with
    |none=>rw[hx] at this;simp[undef] at this
    |some v=>rw[hx] at this;simp at this;rw[this]
   simp[Ue]
  ·rename_i hb
   cases h
   have hr:=he d;rw[hb] at hr;unfold yielded;rw[hd];generalize hx:a.tmps.getD d undef=x at hr
   cases hr with
   |df _ cv h1 _=>
    cases hy:a.tmps[d]? with
    |none=>simp[hy]
    |some y=>
     have:y=.tuple cv:=by simpa[Array.getD_eq_getD_getElem?,hy] using hx
     subst this;simp[hy]
  ·cases h
 ·cases h
theorem eF.put {C:Cx}{s:St}{L L':Lay}{w w':World}{a:Act}{H':List aA}{T':ar}{v:AV}{cv:Value}{K:St→Prop}{dst:Option Tmp}(hc:eF C s L w a)(hn:bT L' H' T' w')(hr:bc L' H'.length T' w' v cv)
  (ev:Ev s.H.length s.T.length L s.H.length s.T w L' H'.length T' w') (hp:kN C dst v s.e H' T' K):∃s',K s'∧s'.H=H'∧s'.T=T'∧eF C s' L' w' (a.put dst cv):=by
 have pq:=hc.env.keep ev.keeps;have fO:=le_trans hc.nb ev.n;have eS:=le_trans hc.tb ev.t
 cases dst with
 |none=>exact⟨⟨s.e,H',T'⟩,hp,rfl,rfl,⟨fO,eS,hn,hc.size,hc.defers,pq⟩⟩
 |some d=>
  obtain⟨hd,hk⟩:=hp;refine⟨⟨Am.mo s.e d v,H',T'⟩,hk,rfl,rfl,⟨fO,eS,hn,by simp[Act.put,hc.size],hc.defers,pq.put (by rw[hc.size];exact hd) hr⟩⟩
theorem Eg {C:Cx}{all:Array Oper}{K:St→Prop}:∀(l:List Oper)(s:St),gZ C all K l s→∀L w a (L0:Lay) (s0:St) (w0:World),eF C s L w a→Ev C.nb C.tb L0 s0.H.length s0.T w0 L s.H.length s.T w→
  wpList C.P all (dh C (dL K fun _ _=>False) L0 s0 w0) l a w:=by
 intro l
 induction l with
 |nil=>intro s h L w a L0 s0 w0 hc ev;exact⟨s,L,h,hc,ev⟩
 |cons o r ih=>
  intro s h L w a L0 s0 w0 hc ev;have O0:(match fJ o s.e with
   |some (g,as)=>tZ C (gZ C all K r) o.dst g as s
   |none=>match Gg C.P o s.e with
    |some (n,q)=>∀b:Bool,(0<n→b=!q)→kN C o.dst (.bool b) s.e s.H s.T (gZ C all K r)
    |none=>match Gi C.P C.bx o s.e s.H with
     |some (m,ys)=>∀k:Nat,kN C o.dst (.bV s.H.length 0 m) s.e (s.H++[.cells (ys++List.replicate k .top)]) s.T (gZ C all K r)
     |none=>match jD C.P C.bx o s.e s.H with
      |some (m,ys,z)=>∀nc:Nat,m≤nc→kN C o.dst (.bJ s.H.length m nc) s.e (s.H++[.cells (ys++List.replicate ((nc-m)*z) .top)]) s.T (gZ C all K r)
      |none=>match qv o s.e with
       |some (t,t2,i,n,cap,x)=>Qu C (gZ C all K r) o.dst t t2 i n cap x s.e s.H s.T
       |none=>match uK o s.e s.H with
        |some (i,m,n,seen,es)=>ES C (gZ C all K r) o.dst i m n seen es s.e s.H s.T
        |none=>match EC C.P o s.e s.H s.T with
         |some (v,H',T')=>kN C o.dst v s.e H' T' (gZ C all K r)
         |none=>False)→o.wp C.P a w (wpList C.P all (dh C (dL K fun _ _=>False) L0 s0 w0) r) (dh C (dL K fun _ _=>False) L0 s0 w0):=by
   intro hx
   split at hx
   ·rename_i g as ic;obtain⟨Q,⟨Ac,hq⟩,hk⟩:=hx;unfold fJ at ic
    split at ic
    ·rename_i f args zu lq
     split at ic
     ·rename_i g' first db hf
      cases ic
      have FK:=hc.env.bK f;rw[hf] at FK;generalize ZA:a.eval f=fv at FK
      cases FK with
      |fn _ _ _ fa ca h1 h2 vV mN=>
       have cK:(execOp a.eval o).run C.P w=.ok (.enter g (fa++args.map a.eval++ca)) w:=by
        simp only[execOp,lq,resolve,ZA,Deferred.ofValue,Sem.run_bind,Sem.run_pure,Result.andThen_ok,invoke,Ac]
       unfold Oper.wp;rw[cK,Oper.upon_enter];have fj:zS L s.H.length s.T w (first++args.toList.map (bK s.e)++db) (fa++args.map a.eval++ca).toList:=by
        simp only[Array.toList_append,Array.toList_map];refine(zS.append ⟨by simpa using h1,fun j hj bR=>by simpa using vV j hj (by simpa using bR)⟩ ⟨by simp,fun j hj bR=>?_⟩).append ⟨by simpa using h2,fun j hj bR=>by simpa using mN j hj (by simpa using bR)⟩;simp only[getElem_map];exact hc.env.bK _
       refine(hq L w _ hc.mQ (by simpa using fj.1) (fun j hj bR=>by
        have h3:=fj.2 j hj (by rw[Array.length_toList];exact bR)
        rwa [Array.getElem_toList] at h3)).mono ?_
       ·rintro e w' ⟨rr,H',T',L',cv,hQ,rfl,cT,dI,dP⟩;obtain⟨s',mi,e1,e2,jT⟩:=hc.put cT dI dP (hk _ _ _ hQ);exact ih s' mi L' w' _ L0 s0 w0 jT (ev.trans (by rw[e1,e2];exact dP.mono hc.nb hc.tb))
     ·cases ic
    ·cases ic
   ·split at hx
    ·rename_i n q sX;obtain⟨b,hb,cK⟩:=KB sX hc.env;obtain⟨s',mi,e1,e2,jT⟩:=hc.put (v:=.bool b) (cv:=.bool b) hc.mQ (.bool b) (Ev.refl (le_refl _) (le_refl _)) (hx b hb);unfold Oper.wp;rw[cK];exact ih s' mi L w _ L0 s0 w0 jT (by rw[e1,e2];exact ev)
    split at hx
    ·rename_i m ys yk;obtain⟨k,cv,w',L',cK,cT,dI,dP⟩:=KF yk hc.mQ hc.env;obtain⟨s',mi,e1,e2,jT⟩:=hc.put cT dI dP (hx k);unfold Oper.wp;rw[cK];exact ih s' mi L' w' _ L0 s0 w0 jT (ev.trans (by rw[e1,e2];exact dP.mono hc.nb hc.tb))
    split at hx
    ·rename_i m ys z yk;obtain⟨nc,kT,cv,w',L',cK,cT,dI,dP⟩:=xe yk hc.mQ hc.env;obtain⟨s',mi,e1,e2,jT⟩:=hc.put cT dI dP (hx nc kT);unfold Oper.wp;rw[cK];exact ih s' mi L' w' _ L0 s0 w0 jT (ev.trans (by rw[e1,e2];exact dP.mono hc.nb hc.tb))
    split at hx
    ·rename_i t t2 i n cap x FN;obtain⟨el,vs,xs,m,hu,hH,Iz,lB,sq,rF,sX,pf,CF,dg⟩:=hx;unfold qv at FN
     split at FN
     ·rename_i args zu lq
      split at FN
      ·rename_i t' t2' i' n' jO x' zz eu
       cases FN
       have pP:zu=#[t,t2]:=by rw[←Array.toList_inj];exact zz
       subst pP;have iD:args.toList.length=2:=by have:=congrArg List.length eu;simpa using this
       match Ey:args.toList,iD,eu with
       |[p,q],_,eu=>
        simp only[map_cons,map_nil,List.cons.injEq,and_true] at eu;obtain⟨e1,e2⟩:=eu;have h0:=hc.env.bK p;have h1:=hc.env.bK q;rw[e1] at h0;rw[e2] at h1;have mv:args=#[p,q]:=by rw[←Array.toList_inj];exact Ey
        subst mv;have hex:∀cv w',(Builtin.append_ #[t,t2] o.type #[a.eval p,a.eval q]).run C.P w=.ok cv w'→(execOp a.eval o).run C.P w=.ok (.value cv) w':=fun cv w' hr=>by
         simp only[execOp,lq,resolve,Sem.run_bind,Sem.run_pure,Result.andThen_ok,invoke,builtin,map_toArray,map_cons,map_nil,hr]
        rcases AH (ty:=o.type) hc.mQ h0 h1 hu hH Iz lB sq rF sX pf with⟨hle,cv,w',L',cK,cT,dI,dP⟩|⟨aZ,nc,kT,cv,w',L',cK,cT,dI,dP⟩
        ·obtain⟨s',mi,e1,e2,jT⟩:=hc.put cT dI dP (CF hle);unfold Oper.wp;rw[hex _ _ cK];exact ih s' mi L' w' _ L0 s0 w0 jT (ev.trans (by rw[e1,e2];exact dP.mono hc.nb hc.tb))
        ·obtain⟨s',mi,e1,e2,jT⟩:=hc.put cT dI dP (dg nc aZ kT);unfold Oper.wp;rw[hex _ _ cK];exact ih s' mi L' w' _ L0 s0 w0 jT (ev.trans (by rw[e1,e2];exact dP.mono hc.nb hc.tb))
      ·cases FN
     ·cases FN
    split at hx
    ·rename_i i m n seen es tI;obtain⟨rfl,CF,dg⟩:=hx;unfold uK at tI
     split at tI
     ·rename_i x lq
      split at tI
      ·rename_i i' Sj
       split at tI
       ·rename_i m' n' abW hi
        split at tI
        ·rename_i es' hm
         cases tI
         have hp:=hc.env.bK x;rw[Sj] at hp;obtain⟨e2,aZ⟩:=hp.mA;have hex:∀cv w',(Instr.next (.pointer (some ⟨L.bN i,0,none⟩)) false o.type).run C.P w=.ok cv w'→(execOp a.eval o).run C.P w=.ok (.value cv) w':=fun cv w' hr=>by
          simp only[execOp,lq,Sem.run_bind,e2,hr,Result.andThen_ok];rfl
         rcases GX hc.mQ o.type hi hm with⟨fj,cK⟩|⟨j,hj,cv,w',Rl,cK,cT,dI,dP⟩
         ·obtain⟨s',mi,e1,e2,jT⟩:=hc.put (v:=.df [.bool false]) (cv:=.tuple #[.bool false]) hc.mQ (.df _ _ rfl (fun j hj bR=>by match j,hj with|0,_=>exact .bool _)) (Ev.refl (le_refl _) (le_refl _)) (CF fj);unfold Oper.wp;rw[hex _ _ cK];exact ih s' mi L w _ L0 s0 w0 jT (by rw[e1,e2];exact ev)
         ·obtain⟨s',mi,e1,e2,jT⟩:=hc.put cT dI dP (dg j _ _ (getElem?_eq_getElem hj) Rl);unfold Oper.wp;rw[hex _ _ cK];exact ih s' mi L w' _ L0 s0 w0 jT (ev.trans (by rw[e1,e2];exact dP.mono hc.nb hc.tb))
        ·cases tI
       ·cases tI
      ·cases tI
     ·cases tI
    split at hx
    ·rename_i v H' T' lq;obtain⟨n,cv,w',L',cK,hn,cT,dI,dP⟩:=x6 hc.mQ hc.env lq;obtain⟨s',mi,e1,e2,jT⟩:=hc.put cT dI dP hx;unfold Oper.wp;rw[cK];have fin:=ih s' mi L' w' _ L0 s0 w0 jT (ev.trans (by rw[e1,e2];exact dP.mono hc.nb hc.tb));rcases hn with rfl|⟨rfl,rfl⟩
     ·exact fin
     ·exact fin
    ·exact hx.elim
  unfold wpList;unfold gZ at h
  dsimp only at h
  split at h
  ·rename_i hg;rw[if_pos (by simp[Region.wanted,hg])];exact .inl (O0 h)
  ·rename_i j want hg
   split at h
   ·rename_i b hb;have hy:=mL hc.env hb
    split at h
    ·rename_i th;rw[if_pos (by simp[Region.wanted,hg,hy,th])];exact .inl (O0 h)
    ·rename_i th;rw[if_neg (by simp[Region.wanted,hg,hy,th])];obtain⟨s',mi,e1,e2,jT⟩:=hc.put (v:=.df []) (cv:=undef) hc.mQ (.df [] #[] rfl (fun j hj=>by simp at hj)) (Ev.refl (le_refl _) (le_refl _)) h;exact ih s' mi L w _ L0 s0 w0 jT (by rw[e1,e2];exact ev)
   ·exact h.elim
theorem x4 {C:Cx}{id:Nat}{ops:List Oper}{K:St→Prop}{Q:Exit→St→Prop}{s:St}(h:gZ C ops.toArray K ops ⟨prune C.nv s.e,s.H,s.T⟩):AW C (.region id ops.toArray false) (dL K Q) s:=by
 intro L w a hc;have jT:eF C ⟨prune C.nv s.e,s.H,s.T⟩ L w a:=⟨hc.nb,hc.tb,hc.mQ,hc.size,hc.defers,fun t=>by
  rcases mH C.nv s.e t with e|e<;>rw[e]
  ·exact hc.env t
  ·exact .top _⟩
 refine wp_region_lit ?_;have:=Eg ops _ h L w a L s w jT (Ev.refl hc.nb hc.tb);have key:∀(l:List Oper)(a:Act)(w':World),wpList C.P ops.toArray (dh C (dL K fun _ _=>False) L s w) l a w'→wpList C.P ops.toArray (dh C (dL K Q) L s w) l a w':=by
  intro l;have Aa:∀e a w',dh C (dL K fun _ _=>False) L s w e a w'→dh C (dL K Q) L s w e a w':=by
   rintro e a w' ⟨s',L',q,r⟩;refine⟨s',L',?_,r⟩
   cases e<;>first|exact q|exact q.elim
  induction l with
  |nil=>intro a w' h;exact Aa _ _ _ h
  |cons o r ih=>
   intro a w' h;unfold wpList at h ⊢
   split
   ·rename_i hw;rw[if_pos hw] at h;rcases h with h|⟨h1,h2⟩
    ·refine .inl ?_;unfold Oper.wp at h ⊢;generalize (execOp a.eval o).run C.P w'=rr at h ⊢
     cases rr with
     |ok n w''=>
      cases n<;>simp only[Oper.upon] at h ⊢<;>first
       |exact ih _ _ h
       |exact h
       |(refine h.mono ?_
         intro e w3 he
         cases e with
         |returned v=>exact ih _ _ he
         |panicked ch=>exact Aa _ _ _ he
         |outgrown=>obtain⟨a0,w0,h0⟩:=he;exact⟨a0,w0,Aa _ _ _ h0⟩)
       |exact h.mono fun v w3 he=>ih _ _ he
     |halt hh w''=>cases hh<;>simp only[Oper.upon] at h ⊢<;>first|exact Aa _ _ _ h|exact h
    ·obtain⟨a0,w0,h0⟩:=h2;exact .inr ⟨h1,a0,w0,Aa _ _ _ h0⟩
   ·rename_i hw;rw[if_neg hw] at h;exact ih _ _ h
 exact key _ _ _ this
theorem Oh {C:Cx}{c:Operand}{x y:Code}{Q:Exit→St→Prop}{s:St}{t:Bool}(hc:bK s.e c=.bool t)(h:if t=true then AW C x Q s else AW C y Q s):AW C (.cond c x y) Q s:=by
 intro L w a hs;have hr:=hs.env.bK c;rw[hc] at hr;refine wp_cond hr.iC ?_
 cases t
 ·exact h L w a hs
 ·exact h L w a hs
def EM (P:Program)(s:St):ResultVar→Option AV
 |.tmp t=>some (bF s.e t)
 |.cell t ty=>match Jt s.H (bF s.e t) with
  |some (vs,o)=>pD P ty vs o
  |none=>none
def wR (P:Program)(s:St):List ResultVar→Option (List AV)
 |[]=>some []
 |x::r=>match EM P s x,wR P s r with
  |some v,some vs=>some (v::vs)
  |_,_=>none
def M5 (P:Program)(rs:List ResultVar)(s:St):Option AV:=
 match wR P s rs with
 |some [v]=>some v
 |some vs=>some (.df vs)
 |none=>none
def nN (P:Program)(rs:List ResultVar)(Q:AV→List aA→ar→Prop):Exit→St→Prop
 |.ret,s|.normal,s=>match M5 P rs s with
  |some v=>Q v s.H s.T
  |none=>False
 |_,_=>False
def yy (tmps:Array Value):ResultVar→Sem Value
 |.tmp t=>pure (tmps.getD t undef)
 |.cell t ty=>do loadVar ty (←asAddr (tmps.getD t undef))
theorem DG (fn:Func)(tmps:Array Value):results fn tmps=(do let vs←fn.results.mapM (yy tmps);pure (if h:vs.size=1 then vs[0] else .tuple vs)):=rfl
theorem vD {C:Cx}{s:St}{L:Lay}{w:World}{a:Act}{fn:Func}{v:AV}(hc:eF C s L w a)(h:M5 C.P fn.results.toList s=some v):∃cv,(results fn a.tmps).run C.P w=.ok cv w∧bc L s.H.length s.T w v cv:=by
 have one:∀x v,EM C.P s x=some v→∃cv,(yy a.tmps x).run C.P w=.ok cv w∧bc L s.H.length s.T w v cv:=by
  intro x v hx
  cases x with
  |tmp t=>cases hx;exact⟨_,rfl,hc.env t⟩
  |cell t ty=>
   simp only[EM] at hx
   split at hx
   ·rename_i vs o rE;obtain⟨b,base,cv,e2,hr,ki⟩:=vC hc.mQ (hc.env t) rE;obtain⟨c,h1,h2⟩:=sE (P:=C.P) hr ki hx;refine⟨c,?_,h2⟩;simp only[yy,e2,asAddr,Sem.run_bind,Sem.run_pure,Result.andThen_ok];exact h1
   ·cases hx
 have many:∀l vs,wR C.P s l=some vs→∃cs:List Value,(l.mapM (yy a.tmps)).run C.P w=.ok cs w∧cs.length=vs.length∧∀(j:Nat)(h:j<vs.length)(h':j<cs.length),bc L s.H.length s.T w (vs[j]'h) (cs[j]'h'):=by
  intro l
  induction l with
  |nil=>intro vs hv;cases hv;exact⟨[],rfl,rfl,fun j hj=>by simp at hj⟩
  |cons x r ih=>
   intro vs hv;simp only[wR] at hv
   split at hv
   ·rename_i v' vs' e1 e2
    cases hv
    obtain⟨cv,h1,h2⟩:=one x v' e1;obtain⟨cs,h3,h4,h5⟩:=ih vs' e2;refine⟨cv::cs,?_,by simp[h4],fun j hj bR=>?_⟩
    ·simp only[List.mapM_cons,Sem.run_bind,h1,Result.andThen_ok,h3,Sem.run_pure]
    ·cases j with
     |zero=>exact h2
     |succ j=>exact h5 j (by simpa using hj) (by simpa using bR)
   ·cases hv
 unfold M5 at h
 cases hl:wR C.P s fn.results.toList with
 |none=>rw[hl] at h;cases h
 |some vs=>
  rw[hl] at h;obtain⟨cs,h1,h2,h3⟩:=many _ _ hl;have cK:(results fn a.tmps).run C.P w=.ok (if h:cs.toArray.size=1 then cs.toArray[0] else .tuple cs.toArray) w:=by
   rw[DG,Array.mapM_eq_mapM_toList];simp only[Sem.run_bind,Sem.run_map,h1,Result.andThen_ok];rfl
  refine⟨_,cK,?_⟩
  match vs,cs,h2,h3,h with
  |[v'],[c],_,h3,h=>cases h;exact h3 0 (by simp) (by simp)
  |[],[],_,h3,h=>cases h;exact .df _ _ rfl (fun j hj=>by simp at hj)
  |v1::v2::vr,c1::c2::cr,h2,h3,h=>
   cases h
   rw[dif_neg (by simp)];exact .df _ _ (by simpa using h2) (fun j hj bR=>by simpa using h3 j hj (by simpa using bR))
def uB:Nat→List AV→Env
 |_,[]=>[]
 |k,v::r=>(k,v)::uB (k+1) r
theorem DZ:∀(l:List AV)(k t:Nat),bF (uB k l) t=if h:k≤t∧t-k<l.length then l[t-k]'h.2 else .top:=by
 intro l
 induction l with
 |nil=>intro k t;simp[uB,bF]
 |cons v r ih=>
  intro k t;simp only[uB,bF]
  by_cases Rt:k=t
  ·subst Rt;simp
  ·rw[if_neg Rt,ih]
   by_cases h:k+1≤t∧t-(k+1)<r.length
   ·rw[dif_pos h,dif_pos (by simp;omega)];have:t-k=(t-(k+1))+1:=by omega
    simp[this]
   ·rw[dif_neg h,dif_neg (by simp;omega)]
def bC (H:List aA)(T:ar):Prop:=∀(i:Nat)(b:aA),H[i]?=some b→∀v∈b.yl,Below H.length T.length v
theorem bc.toBelow {L:Lay}{N:Nat}{T:ar}{w:World}{v:AV}{c:Value}(h:bc L N T w v c):Below N T.length v:=by
 have mem:∀{P:AV→Prop} {cs:List AV},(∀(j:Nat)(h:j<cs.length),P (cs[j]'h))→∀c∈cs,P c:=by
  intro P cs hp c hc;obtain⟨j,hj,e⟩:=List.mem_iff_getElem.1 hc;rw[←e];exact hp j hj
 have tag:∀{tg:Tag} {n u:Nat} {a:Option Addr} {cap:Nat},kg L T tg n u a cap→∀x,tg=.own x→x<T.length:=by
  intro tg n u a cap ht x e;subst e;obtain⟨u0,z,h0,_⟩:=ht;exact(List.getElem?_eq_some_iff.1 h0).1
 induction h with
 |top v=>exact .top
 |bool b=>exact .bool b
 |int k x=>exact .int k x
 |str s=>exact .str s
 |fc=>exact .fc
 |ptr i o h=>exact .ptr i o h
 |dK cs o b base f hm hc h1 hr ih=>exact .dK cs o (mem ih)
 |wD tg a cap ht=>exact .sl 0 [] tg (fun _ h=>by simp at h) (tag ht)
 |LU m cs tg b base cap f cg hm hc h1 hr ht ih=>exact .sl m cs tg (mem ih) (tag ht)
 |bV i o m cap h cg=>exact .bV i o m h
 |bJ i m cap h cg=>exact .bJ i m cap h
 |aO i h=>exact .aO i h
 |fn f first db fv cv h1 h2 vV mN Po Pn=>exact .fn f first db (mem fun j hj=>Po j hj (by omega)) (mem fun j hj=>Pn j hj (by omega))
 |hZ=>exact .hZ
 |ly=>exact .ly
 |yc t v=>exact .yc
 |agg cs cv h1 h2 hr ih=>exact .agg cs (mem fun j hj=>ih j hj (by omega))
 |df cs cv h1 hr ih=>exact .df cs (mem fun j hj=>ih j hj (by omega))
theorem bT.iG {L:Lay}{H:List aA}{T:ar}{w:World}(h:bT L H T w):bC H T:=by
 intro i b hi v hv;have hb:=h.box i _ hi
 cases b with
 |cells vs=>
  obtain⟨c,t,fr,_,_,h3,_,h4,_⟩:=hb;obtain⟨j,hj,e⟩:=List.mem_iff_getElem.1 (show v∈vs from hv);rw[←e];exact(h4 j hj (by omega)).toBelow
 |iter s pos=>simp at hv
 |map es=>
  obtain⟨dz,_,h2,h3,_⟩:=hb;obtain⟨x,hx,e⟩:=List.mem_map.1 hv;obtain⟨j,hj,e2⟩:=List.mem_iff_getElem.1 hx;rw[←e,←e2];exact(h3 j hj (by omega)).2.2.toBelow
 |kK m n seen=>simp at hv
 |Gc g p=>simp at hv
theorem aj {P:Program}{f:FuncId}{fn:Func}{c:Code}{args:List AV}{H:List aA}{T:ar}{Q:AV→List aA→ar→Prop}(nv:Nat)(bx:List Nat){nt:Nat}(Eu:fn.ntmps=nt)(hf:P.funcs[f]?=some fn)(hb:fn.body=some c)
  (Ac:∀as w,(callFunc f as).run P w=.ok (.enter f as) w) (hn:args.length≤nt) (h:bC H T→AW ⟨P,nt,nv,H.length,T.length,bx⟩ c (nN P fn.results.toList Q) ⟨uB 0 args,H,T⟩):aq P f args H T Q:=by
 subst Eu;refine⟨Ac,fun L w ca hc hl hr=>calls_of_wp hf hb ?_⟩;have eM:eF ⟨P,fn.ntmps,nv,H.length,T.length,bx⟩ ⟨uB 0 args,H,T⟩ L w { tmps:=ca++Array.replicate (fn.ntmps-ca.size) undef,defers:=[] }:=by
  refine⟨le_refl _,le_refl _,hc,by simp;omega,rfl,fun t=>?_⟩;rw[DZ]
  by_cases ht:0≤t∧t-0<args.length
  ·rw[dif_pos ht];have h2:t<ca.size:=by omega
   have e:(ca++Array.replicate (fn.ntmps-ca.size) undef).getD t undef=ca[t]:=by
    rw[Array.getD_eq_getD_getElem?,Array.getElem?_append_left h2,Array.getElem?_eq_getElem h2];rfl
   rw[e];exact hr t (by omega) h2
  ·rw[dif_neg ht];exact .top _
 refine wp_mono (h hc.iG L w _ eM) ?_;rintro e a' w' ⟨s',L',q,vY,dP⟩
 cases e<;>simp only[nN] at q
 case normal=>
  split at q
  ·rename_i v hv;obtain⟨cv,h1,h2⟩:=vD (C:=⟨P,fn.ntmps,nv,H.length,T.length,bx⟩) vY hv;exact⟨vY.defers,cv,h1,v,s'.H,s'.T,L',cv,q,rfl,vY.mQ,h2,dP⟩
  ·exact q.elim
 case ret=>
  split at q
  ·rename_i v hv;obtain⟨cv,h1,h2⟩:=vD (C:=⟨P,fn.ntmps,nv,H.length,T.length,bx⟩) vY hv;exact⟨vY.defers,cv,h1,v,s'.H,s'.T,L',cv,q,rfl,vY.mQ,h2,dP⟩
  ·exact q.elim
theorem ae {C:Cx}{id:Nat}{ops:List Oper}{y:Code}{Q:Exit→St→Prop}{s:St}
  (h:∀K:St→Prop,(∀s,AW C y Q s→K s)→gZ C ops.toArray K ops ⟨prune C.nv s.e,s.H,s.T⟩):AW C (.seq (.region id ops.toArray false) y) Q s:=
 yF fun K hK=>x4 (h K hK)
theorem au {C:Cx}{id:Nat}{ops:List Oper}{Q:Exit→St→Prop}{s:St}
  (h:∀K:St→Prop,(∀s,Q .normal s→K s)→gZ C ops.toArray K ops ⟨prune C.nv s.e,s.H,s.T⟩):AW C (.region id ops.toArray false) Q s:=
 (x4 (Q:=Q) (h (fun s=>Q .normal s) fun _ h=>h)).mono fun e s q=>by cases e<;>exact q
theorem aN {C:Cx}{c:Operand}{x y:Code}{Q:Exit→St→Prop}{s:St}{t:Bool}(hc:bK s.e c=.bool t)(h1:t=true→AW C x Q s)(h2:t=false→AW C y Q s):AW C (.cond c x y) Q s:=
 Oh hc (by cases t<;>simp<;>first|exact h1 rfl|exact h2 rfl)
theorem aF {C:Cx}{c:Operand}{x y:Code}{Q:Exit→St→Prop}{s:St}(hc:bK s.e c=.bool true)(h:AW C x Q s):AW C (.cond c x y) Q s:=aN hc (fun _=>h) (fun h=>absurd h (by simp))
theorem aD {C:Cx}{c:Operand}{x y:Code}{Q:Exit→St→Prop}{s:St}(hc:bK s.e c=.bool false)(h:AW C y Q s):AW C (.cond c x y) Q s:=aN hc (fun h=>absurd h (by simp)) (fun _=>h)
theorem af {C:Cx}{x y:Code}{Q:Exit→St→Prop}{s:St}(h:∀K:St→Prop,(∀s,AW C y Q s→K s)→AW C x (dL K Q) s):AW C (.seq x y) Q s:=yF h
theorem ak {C:Cx}{K:St→Prop}{dst:Option Tmp}{g:FuncId}{as:List AV}{s:St}{r:AV}{H':List aA}{T':ar}(h:aq C.P g as s.H s.T (Is r H' T'))(k:kN C dst r s.e H' T' K):tZ C K dst g as s:=
 ⟨_,h,fun _ _ _ ⟨e1,e2,e3⟩=>by subst e1;subst e2;subst e3;exact k⟩
@[simp] theorem wrap64 {x:Int} (h1:-9223372036854775808≤x) (h2:x≤9223372036854775807):IntKind.i64.wrap x=x:=by
 rw[IntKind.wrap_i64];omega
@[simp] theorem X3 {x:Int} (h1:0≤x) (h2:x≤18446744073709551615):IntKind.u64.wrap x=x:=by
 show x % 18446744073709551616=x;exact Int.emod_eq_of_lt h1 (by omega)
def ints (xs:List Int):List AV:=xs.map (.int .i64)
def strs (xs:List (List UInt8)):List AV:=xs.map .str
section
variable {n t : Nat}
@[simp] theorem Pf (xs:List Int):(ints xs).length=xs.length:=by simp[ints]
@[simp] theorem Pe (xs:List (List UInt8)):(strs xs).length=xs.length:=by simp[strs]
@[simp] theorem U7:ints []=[]:=rfl
@[simp] theorem UQ:strs []=[]:=rfl
@[simp] theorem Vd:qu []=[]:=rfl
theorem B5 (a b:List Int):ints a++ints b=ints (a++b):=by simp[ints]
theorem cX (a:List Int)(x:Int):ints a++[.int .i64 x]=ints (a++[x]):=by simp[ints]
theorem GD (a:List (List UInt8))(x:List UInt8):strs a++[.str x]=strs (a++[x]):=by simp[strs]
theorem aS {xs:List Int}{k:Nat}(h:k<xs.length):(ints xs).getD k .top=.int .i64 (xs.getD k 0):=by
 simp[ints,h]
def aJ (n t:Nat)(cs:List AV):Prop:=∀c∈cs,Below n t c
@[simp] theorem RV:Below n t .top:=.top
@[simp] theorem Q9 (b:Bool):Below n t (.bool b):=.bool b
@[simp] theorem R5 (k:IntKind) (x:Int):Below n t (.int k x):=.int k x
@[simp] theorem RW (s:List UInt8):Below n t (.str s):=.str s
@[simp] theorem RX {i o:Nat}:Below n t (.ptr i o)↔i<n:=⟨fun h=>by cases h;assumption,fun h=>.ptr i o h⟩
@[simp] theorem RZ {i o m:Nat}:Below n t (.bV i o m)↔i<n:=⟨fun h=>by cases h;assumption,fun h=>.bV i o m h⟩
@[simp] theorem Q7 {i:Nat}:Below n t (.aO i)↔i<n:=⟨fun h=>by cases h;assumption,fun h=>.aO i h⟩
@[simp] theorem Il {i m cap:Nat}:Below n t (.bJ i m cap)↔i<n:=⟨fun h=>by cases h;assumption,fun h=>.bJ i m cap h⟩
@[simp] theorem R6 {cs:List AV}:Below n t (.agg cs)↔aJ n t cs:=⟨fun h=>by cases h;assumption,fun h=>.agg cs h⟩
@[simp] theorem RS {cs:List AV}:Below n t (.df cs)↔aJ n t cs:=⟨fun h=>by cases h;assumption,fun h=>.df cs h⟩
@[simp] theorem Md {m:Nat} {cs:List AV}:Below n t (.sl m cs .none)↔aJ n t cs:=⟨fun h=>by cases h;assumption,fun h=>.sl m cs .none h (fun x e=>by cases e)⟩
@[simp] theorem Me {m:Nat} {cs:List AV}:Below n t (.sl m cs .full)↔aJ n t cs:=⟨fun h=>by cases h;assumption,fun h=>.sl m cs .full h (fun x e=>by cases e)⟩
@[simp] theorem Oo {m k:Nat} {cs:List AV}:Below n t (.sl m cs (.own k))↔aJ n t cs∧k<t:=
 ⟨fun h=>by cases h with|sl _ _ _ h1 h2=>exact⟨h1,h2 k rfl⟩,fun h=>.sl m cs (.own k) h.1 (fun x e=>by cases e;exact h.2)⟩
@[simp] theorem WJ {f:FuncId} {a b:List AV}:Below n t (.fn f a b)↔aJ n t a∧aJ n t b:=⟨fun h=>by cases h;exact⟨‹_›,‹_›⟩,fun h=>.fn f a b h.1 h.2⟩
@[simp] theorem Q8 {xs:List Int}:aJ n t (ints xs):=by
 intro c hc;simp only[ints,List.mem_map] at hc;obtain⟨x,_,rfl⟩:=hc;exact .int _ _
@[simp] theorem Q6 {xs:List (List UInt8)}:aJ n t (strs xs):=by
 intro c hc;simp only[strs,List.mem_map] at hc;obtain⟨x,_,rfl⟩:=hc;exact .str _
end
@[simp] theorem Ot {n t:Nat}:aJ n t []:=fun _ h=>by simp at h
@[simp] theorem Mf {n t:Nat} {c:AV} {cs:List AV}:aJ n t (c::cs)↔Below n t c∧aJ n t cs:=by simp[aJ]
@[simp] theorem IM {n t:Nat} {a b:List AV}:aJ n t (a++b)↔aJ n t a∧aJ n t b:=by
 simp only[aJ,List.mem_append];exact⟨fun h=>⟨fun c hc=>h c (.inl hc),fun c hc=>h c (.inr hc)⟩,fun h c hc=>hc.elim (h.1 c) (h.2 c)⟩
@[simp] theorem Oq {n t k:Nat} {c:AV} (h:Below n t c):aJ n t (List.replicate k c):=fun x hx=>by rw[List.eq_of_mem_replicate hx];exact h
theorem aJ.set {n t k:Nat}{c:AV}{cs:List AV}(h:aJ n t cs)(hc:Below n t c):aJ n t (cs.set k c):=fun x hx=>by
 rcases List.mem_or_eq_of_mem_set hx with h1|h1
 ·exact h x h1
 ·rw[h1];exact hc
def bt (n t:Nat)(e:Env):Env→Prop
 |[]=>True
 |(s,v)::r=>(v=bF e s∨v=cY (bF e s))∧Below n t v∧bt n t e r
theorem HX {n t:Nat}{e:Env}:∀{e':Env},bt n t e e'→∀s,bF e' s=.top∨((bF e' s=bF e s∨bF e' s=cY (bF e s))∧Below n t (bF e' s)):=by
 intro e'
 induction e' with
 |nil=>intro _ s;exact .inl rfl
 |cons x r ih=>
  obtain⟨s0,v⟩:=x;intro h s
  by_cases hs:s0=s
  ·subst hs;simp only[bF,if_true];exact .inr ⟨h.1,h.2.1⟩
  ·simp only[bF,if_neg hs];exact ih h.2.2 s
@[simp] theorem YS {e:Env} {t:Tmp}:bK e (.tmp t)=bF e t:=rfl
@[simp] theorem R8 {e:Env} {v:Value}:bK e (.const v)=Mh v:=rfl
@[simp] theorem WM {e:Env} {f:FuncId}:bK e (.func f)=.fn f [] []:=rfl
def Xj:AV→Option (Option Bool)
 |.bool b=>some (some b)
 |.df []=>some none
 |_=>none
def Xi (e:Env):Option Tmp→Option (Option Bool)
 |some d=>Xj (bF e d)
 |none=>none
@[simp] theorem Ya {all:Array Oper} {j:Nat} {e:Env}:jN all j e=Xi e ((all[j]?).bind (·.dst)):=by
 unfold jN Xi
 cases (all[j]?).bind (·.dst) with
 |none=>rfl
 |some d=>
  simp only;generalize bF e d=x
  cases x<;>first|rfl|(rename_i cs;cases cs<;>rfl)
@[simp] theorem U8 {e:Env} {d:Tmp}:Xi e (some d)=Xj (bF e d):=rfl
@[simp] theorem U9 {e:Env}:Xi e none=none:=rfl
@[simp] theorem Vb {b:Bool}:Xj (.bool b)=some (some b):=rfl
@[simp] theorem Va:Xj (.df [])=some none:=rfl
section
variable {C : Cx} {all : Array Oper} {K : St → Prop} {o : Oper} {r : List Oper} {e : Env} {H : List aA} {T : ar}
@[simp] theorem WL:gZ C all K [] ⟨e,H,T⟩=K ⟨e,H,T⟩:=rfl
@[simp] theorem R7:gZ C all K (o::r) ⟨e,H,T⟩=(
  let exec:Prop:=match fJ o e with
   |some (g,as)=>tZ C (gZ C all K r) o.dst g as ⟨e,H,T⟩
   |none=>match Gg C.P o e with
    |some (n,q)=>∀b:Bool,(0<n→b=!q)→kN C o.dst (.bool b) e H T (gZ C all K r)
    |none=>match Gi C.P C.bx o e H with
     |some (m,ys)=>∀k:Nat,kN C o.dst (.bV H.length 0 m) e (H++[.cells (ys++List.replicate k .top)]) T (gZ C all K r)
     |none=>match jD C.P C.bx o e H with
      |some (m,ys,z)=>∀nc:Nat,m≤nc→kN C o.dst (.bJ H.length m nc) e (H++[.cells (ys++List.replicate ((nc-m)*z) .top)]) T (gZ C all K r)
      |none=>match qv o e with
       |some (t,t2,i,n,cap,x)=>Qu C (gZ C all K r) o.dst t t2 i n cap x e H T
       |none=>match uK o e H with
        |some (i,m,n,seen,es)=>ES C (gZ C all K r) o.dst i m n seen es e H T
        |none=>match EC C.P o e H T with
         |some (v,H',T')=>kN C o.dst v e H' T' (gZ C all K r)
         |none=>False
  match o.guard with
  |none=>exec
  |some (j,want)=>match jN all j e with
   |some b=>if b=some want then exec else kN C o.dst (.df []) e H T (gZ C all K r)
   |none=>False):=rfl
end
attribute [simp] EN uM Gg fJ uK EC prune uB kN Mh wc mo bF EO M8 M7 M4 Xo rM pD iT Jt PK yE cY mK sA mJ yH yJ eP yG fN P4
 yK nV setMany lp mf qP iS yN M6 Td Gh rn Gi qv jD mC ER EP oo nZ M5 wR EM nN dL C9 zl Ir bt
section
variable {P : Program}
theorem pF {o:Oper}{e e':Env}(h:∀x∈o.op.operands,bK e x=bK e' x):fJ o e=fJ o e':=by
 unfold fJ
 cases ho:o.op<;>try rfl
 rename_i c;rw[ho] at h;obtain⟨callee,args,zu⟩:=c
 cases callee<;>try rfl
 rename_i f;have h1:=h f (by simp[Op.operands,Call.operands]);have h2:args.toList.map (bK e)=args.toList.map (bK e'):=map_congr_left fun x hx=>h x (by simp only[Op.operands,Call.operands];exact Array.mem_append.2 (.inr (Array.mem_toList_iff.1 hx)));simp only[h1,h2]
theorem x7 {o:Oper}{e e':Env}(H:List aA)(T:ar)(h:∀x∈o.op.operands,bK e x=bK e' x):EC P o e H T=EC P o e' H T:=by
 have pt:∀(ps:Array (Nat×Operand)),(∀x∈(ps.toList.map (·.2)).toArray,bK e x=bK e' x)→ps.toList.map (fun(x:Nat×Operand)=>(x.1,bK e x.2))=ps.toList.map (fun(x:Nat×Operand)=>(x.1,bK e' x.2)):=by
  intro ps hp;refine map_congr_left fun x hx=>?_;rw[hp x.2 (by simp;exact⟨x.1,Array.mem_toList_iff.1 hx⟩)]
 have CN:∀(q:Option Operand),(∀x∈q.toArray,bK e x=bK e' x)→q.map (bK e)=q.map (bK e'):=by
  intro q hq
  cases q with
  |none=>rfl
  |some x=>simp only[Option.map_some];rw[hq x (by simp)]
 unfold EC
 cases ho:o.op<;>rw[ho] at h<;>(try simp only[Op.operands] at h)<;>try rfl
 case next x s=>
  have h0:=h x (by simp)
  cases s
  ·rfl
  ·simp only[h0]
 case makeMap t r=>cases r<;>rfl
 case build t ps=>simp only[pt ps h]
 case buildSlice t n ps=>simp only[pt ps h]
 case makeFunc fn first db=>
  cases fn<;>try rfl
  have h1:first.toList.map (bK e)=first.toList.map (bK e'):=map_congr_left fun x hx=>h x (Array.mem_append.2 (.inl (Array.mem_toList_iff.1 hx)));have h2:db.toList.map (bK e)=db.toList.map (bK e'):=map_congr_left fun x hx=>h x (Array.mem_append.2 (.inr (Array.mem_toList_iff.1 hx)));simp only[h1,h2]
 case slice t x lo hi mx=>
  have h1:=CN lo (fun y hy=>h y (by simp only[Array.mem_append];exact .inl (.inl (.inr hy))));have h2:=CN hi (fun y hy=>h y (by simp only[Array.mem_append];exact .inl (.inr hy)));have h3:=CN mx (fun y hy=>h y (by simp only[Array.mem_append];exact .inr hy));have h0:=h x (by simp);simp only[h0,h1,h2,h3]
 case call c=>
  obtain⟨callee,args,zu⟩:=c
  cases callee<;>try rfl
  have h2:args.toList.map (bK e)=args.toList.map (bK e'):=map_congr_left fun x hx=>h x (by simp only[Call.operands];exact Array.mem_append.2 (.inr (Array.mem_toList_iff.1 hx)));simp only[h2]
 all_goals (simp only[List.mem_toArray,List.mem_cons,List.not_mem_nil,or_false,forall_eq_or_imp,forall_eq] at h)
 all_goals first
  |simp only[h]
  |(obtain⟨h1,h2⟩:=h;simp only[h1,h2])
  |(obtain⟨h1,h2,h3⟩:=h;simp only[h1,h2,h3])
def dN (P:Program)(o:Oper)(e:Env)(H:List aA)(T:ar)(v:AV)(H':List aA)(T':ar):Prop:=
 match fJ o e with
 |some (g,as)=>aq P g as H T (Is v H' T')
 |none=>EC P o e H T=some (v,H',T')
theorem oE {o:Oper}{e e':Env}{H H':List aA}{T T':ar}{v:AV}(h:∀x∈o.op.operands,bK e x=bK e' x)(k:dN P o e H T v H' T'):dN P o e' H T v H' T':=by
 unfold dN at k ⊢;rw[←pF h,←x7 H T h];exact k
theorem rk {o:Oper}{e:Env}{H H':List aA}{T T':ar}{v:AV}(k:dN P o e H T v H' T'){L:Lay}{w:World}{a:Act}(hc:bT L H T w)(he:ew L H.length T w e a){K:Act→World→Prop}{Q:Exit→Act→World→Prop}
  (hk:∀cv w' L',bT L' H' T' w'→bc L' H'.length T' w' v cv→Ev H.length T.length L H.length T w L' H'.length T' w'→K (a.put o.dst cv) w'):o.wp P a w K Q:=by
 unfold dN at k
 split at k
 ·rename_i g as ic;obtain⟨Ac,hq⟩:=k;unfold fJ at ic
  split at ic
  ·rename_i f args zu lq
   split at ic
   ·rename_i g' first db hf
    cases ic
    have FK:=he.bK f;rw[hf] at FK;generalize ZA:a.eval f=fv at FK
    cases FK with
    |fn _ _ _ fa ca h1 h2 vV mN=>
     have cK:(execOp a.eval o).run P w=.ok (.enter g (fa++args.map a.eval++ca)) w:=by
      simp only[execOp,lq,resolve,ZA,Deferred.ofValue,Sem.run_bind,Sem.run_pure,Result.andThen_ok,invoke,Ac]
     unfold Oper.wp;rw[cK,Oper.upon_enter];have fj:zS L H.length T w (first++args.toList.map (bK e)++db) (fa++args.map a.eval++ca).toList:=by
      simp only[Array.toList_append,Array.toList_map];refine(zS.append ⟨by simpa using h1,fun j hj bR=>by simpa using vV j hj (by simpa using bR)⟩ ⟨by simp,fun j hj bR=>?_⟩).append ⟨by simpa using h2,fun j hj bR=>by simpa using mN j hj (by simpa using bR)⟩;simp only[getElem_map];exact he.bK _
     refine(hq L w _ hc (by simpa using fj.1) (fun j hj bR=>by
      have h3:=fj.2 j hj (by rw[Array.length_toList];exact bR)
      rwa [Array.getElem_toList] at h3)).mono ?_
     rintro en w' ⟨rr,H2,T2,L',cv,⟨e1,e2,e3⟩,rfl,cT,dI,dP⟩;subst e1;subst e2;subst e3;exact hk cv w' L' cT dI dP
   ·cases ic
  ·cases ic
 ·obtain⟨n,cv,w',L',cK,hn,cT,dI,dP⟩:=x6 hc he k;unfold Oper.wp;rw[cK];have fin:=hk cv w' L' cT dI dP;rcases hn with rfl|⟨rfl,rfl⟩
  ·exact fin
  ·exact fin
end
structure bW where
 o:Oper
 e:Env
 run:Bool
 v:AV
 k:Nat
 bu:Bool
abbrev pz:=List aA×ar×Nat
def dW:List Oper→List Nat→List Nat
 |[],acc=>acc
 |o::r,acc=>dW r (acc++[o.after.foldl (fun s e=>if Region.binds .any e then s ||| 2 ^ e.on ||| acc.getD e.on 0 else s) 0])
def j7 (A:List Nat)(j i:Nat):Bool:=(A.getD i 0).testBit j
def EK (A:List Nat)(bu:List Nat)(i:Nat):Nat:=(bu.filter fun e=>j7 A e i).length
def iU (ops : List Oper) (bu : List Nat) (lo : List Nat) (na : List (List Nat)) : Bool :=
  let A := dW ops []
  let n := ops.length
  ((List.range n).all fun i => (List.range n).all fun j => i == j || (match (ops.getD i default).dst, (ops.getD j default).dst with | some d, some d' => d != d' | _, _ => true)) &&
  ((List.range n).all fun i => ((ops.getD i default).looksAt ops.toArray).all fun t => (List.range n).all fun j => i == j || (ops.getD j default).dst != some t || (j < i && j7 A j i) || (i < j && j7 A i j)) &&
  ((List.range n).all fun i => ((ops.getD i default).looksAt ops.toArray).all fun t => (ops.getD i default).dst != some t) &&
  ((List.range bu.length).all fun k => k == 0 || j7 A (bu.getD (k - 1) 0) (bu.getD k 0)) && (bu.all fun e => e < n) && (List.range bu.length).all (fun k => k == 0 || bu.getD (k - 1) 0 < bu.getD k 0) &&
  ((List.range n).all fun i => lo.getD i 0 ≤ EK A bu i) &&
  ((List.range bu.length).all fun k => (List.range (bu.getD k 0)).all fun j => bu.contains j || (na.getD k []).contains j || j7 A j (bu.getD k 0)) &&
  ((List.range n).all fun i => (ops.getD i default).after.all fun e => !Region.binds .any e || e.on < i) && Region.noSelect ops.toArray
def MX (P:Program)(o:Oper)(e:Env)(v:AV):List pz→Prop
 |[]=>True
 |(H,T,_)::r=>dN P o e H T v H T∧MX P o e v r
def MN (P:Program)(aL:List bW)(H:List aA)(T:ar):List Nat→Prop
 |[]=>True
 |j::r=>(match aL[j]? with
  |some x=>x.run=true→x.bu=false→dN P x.o x.e H T x.v H T
  |none=>True)∧MN P aL H T r
def ug (nt:Nat)(dst:Option Tmp)(v:AV)(e:Env)(k:Env→Prop):Prop:=
 match dst with
 |some d=>d<nt∧k (mo e d v)
 |none=>k e
structure tK where
 C:Cx
 all:Array Oper
 bu:List Nat
 lo:List Nat
 na:List (List Nat)
 K:St→Prop
def v8 (D:tK)(next:List bW→List pz→Env→Prop)(o:Oper)(aL:List bW)(sts:List pz)(e:Env)(run:Bool)(v:AV)(H':List aA)(T':ar):Prop:=
 if D.bu.contains aL.length then
  MN D.C.P aL H' T' (D.na.getD (sts.length-1) [])∧ug D.C.nt o.dst v e (next (aL++[⟨o,e,run,v,sts.length-1,true⟩]) (sts++[(H',T',aL.length)]))
 else
  (run=true→MX D.C.P o e v ((sts.drop (D.lo.getD aL.length 0)).dropLast))∧ug D.C.nt o.dst v e (next (aL++[⟨o,e,run,v,sts.length-1,false⟩]) sts)
def JJ (D:tK)(next:List bW→List pz→Env→Prop)(o:Oper)(aL:List bW)(sts:List pz)(e:Env)(g:FuncId)(as:List AV)(H:List aA)(T:ar):Prop:=
 ∃v H' T',aq D.C.P g as H T (Is v H' T')∧(D.bu.contains aL.length=false→H'=H∧T'=T)∧v8 D next o aL sts e true v H' T'
def kj (D:tK)(next:List bW→List pz→Env→Prop)(o:Oper)(aL:List bW)(sts:List pz)(e:Env)(H:List aA)(T:ar):Prop:=
 match fJ o e with
 |some (g,as)=>JJ D next o aL sts e g as H T
 |none=>match EC D.C.P o e H T with
  |some (v,H',T')=>(D.bu.contains aL.length=false→H'=H∧T'=T)∧v8 D next o aL sts e true v H' T'
  |none=>False
def eE (D:tK):List Oper→List bW→List pz→Env→Prop
 |[],_,sts,e=>match sts.getLast? with
  |some (H,T,_)=>D.K ⟨e,H,T⟩
  |none=>False
 |o::r,aL,sts,e=>match sts.getLast? with
  |some (H,T,_)=>match o.guard with
   |none=>kj D (eE D r) o aL sts e H T
   |some (j,want)=>match jN D.all j e with
    |some b=>if b=some want then kj D (eE D r) o aL sts e H T else v8 D (eE D r) o aL sts e false (.df []) H T
    |none=>False
  |none=>False
structure UE (D:tK)(ops:List Oper)(sts:List pz)(aL:List bW)(i:Nat)(x:bW):Prop where
 o:ops[i]?=some x.o
 k:x.k<sts.length
 bu:x.bu=D.bu.contains i
 gate:match x.o.guard with
  |none=>x.run=true
  |some (j,want)=>∃b,jN D.all j x.e=some b∧x.run=(b==some want)
 dst:∀d,x.o.dst=some d→d<D.C.nt
 skip:x.run=false→x.v=.df []
 still:x.run=true→x.bu=false→∀k H T e,sts[k]?=some (H,T,e)→D.lo.getD i 0≤k→(k≤x.k∨(D.na.getD (k-1) []).contains i=true)→dN D.C.P x.o x.e H T x.v H T
 effect:x.bu=true→∃H T e H' T',sts[x.k]?=some (H,T,e)∧sts[x.k+1]?=some (H',T',i)∧(x.run=true→dN D.C.P x.o x.e H T x.v H' T')∧(x.run=false→H'=H∧T'=T)
def JH (dst:Option Tmp)(e:Env)(v:AV):Env:=
 match dst with
 |some d=>mo e d v
 |none=>e
def yI (e:Env)(x:bW):Env:=JH x.o.dst e x.v
def aT:Env→List bW→Env
 |e,[]=>e
 |e,x::r=>aT (yI e x) r
theorem fC (l:List bW):∀(e:Env)(x:bW),aT e (l++[x])=yI (aT e l) x:=by
 induction l with
 |nil=>intro e x;rfl
 |cons y r ih=>intro e x;exact ih _ x
theorem sO (e:Env)(x:bW)(t:Nat):bF (yI e x) t=if x.o.dst=some t then x.v else bF e t:=by
 unfold yI JH
 split
 ·rename_i d hd
  by_cases h:d=t
  ·subst h;simp[hd,cF]
  ·rw[bB _ _ _ _ h,if_neg (by rw[hd];intro e;exact h (by injection e))]
 ·rename_i hd;simp[hd]
theorem cp:∀(l:List bW)(e:Env)(t:Nat),(∀x∈l,x.o.dst≠some t)→bF (aT e l) t=bF e t:=by
 intro l
 induction l with
 |nil=>intro e t _;rfl
 |cons x r ih=>
  intro e t h;rw[aT,ih _ _ (fun y hy=>h y (by simp[hy])),sO,if_neg (h x (by simp))]
theorem eg:∀(l:List bW)(e:Env)(t j:Nat)(x:bW),l[j]?=some x→x.o.dst=some t→(∀i y,l[i]?=some y→y.o.dst=some t→i=j)→bF (aT e l) t=x.v:=by
 intro l
 induction l with
 |nil=>intro e t j x h;simp at h
 |cons y r ih=>
  intro e t j x h hd hu;rw[aT]
  cases j with
  |zero=>
   simp at h;subst h;rw[cp r _ t (fun z hz Co=>by
    obtain⟨i,hi,e1⟩:=List.mem_iff_getElem.1 hz;have:=hu (i+1) z (by simp[←e1,hi]) Co;omega),sO,if_pos hd]
  |succ j=>
   exact ih _ t j x (by simpa using h) hd (fun i z hi hz=>by have:=hu (i+1) z (by simpa using hi) hz;omega)
structure TU (D:tK)(aL:List bW)(sts:List pz):Prop where
 len:sts.length=1+(D.bu.filter (·<aL.length)).length
 k:∀(i:Nat)(x:bW),aL[i]?=some x→x.k=(D.bu.filter (·<i)).length
theorem mW {bu:List Nat}{i:Nat}(h:bu.contains i=false):(bu.filter (·<i+1)).length=(bu.filter (·<i)).length:=by
 congr 1
 apply List.filter_congr;intro x hx;have:x≠i:=by rintro rfl;simp at h;exact h hx
 simp;omega
def jm (bu:List Nat):Bool:=(List.range bu.length).all fun k=>(bu.filter (·<bu.getD k 0)).length==k&&(bu.filter (·<bu.getD k 0+1)).length==k+1
theorem gQ {bu:List Nat}(h:jm bu=true){i:Nat}(hi:bu.contains i=true):bu[(bu.filter (·<i)).length]?=some i∧(bu.filter (·<i+1)).length=(bu.filter (·<i)).length+1:=by
 simp only[List.contains_iff_mem] at hi;obtain⟨k,hk,e⟩:=List.mem_iff_getElem.1 hi;have:=List.all_eq_true.1 h k (List.mem_range.2 hk);simp only[Bool.and_eq_true,beq_iff_eq,getD_eq_getElem?_getD,getElem?_eq_getElem hk,Option.getD_some,e] at this;rw[this.1];exact⟨by rw[getElem?_eq_getElem hk,e],this.2⟩
theorem xu {P:Program}{aL:List bW}{H:List aA}{T:ar}:∀{l:List Nat},MN P aL H T l→∀j,l.contains j=true→∀x,aL[j]?=some x→x.run=true→x.bu=false→dN P x.o x.e H T x.v H T:=by
 intro l
 induction l with
 |nil=>intro _ j hj;simp at hj
 |cons y r ih=>
  intro h j hj x hx h1 h2;obtain⟨g1,g2⟩:=h
  by_cases hy:j=y
  ·subst hy;rw[hx] at g1;exact g1 h1 h2
  ·exact ih g2 j (by simp only[List.contains_cons] at hj;simpa[hy] using hj) x hx h1 h2
theorem xK {P:Program}{o:Oper}{e:Env}{v:AV}:∀{l:List pz},MX P o e v l→∀(j:Nat)(st:pz),l[j]?=some st→dN P o e st.1 st.2.1 v st.1 st.2.1:=by
 intro l
 induction l with
 |nil=>intro _ j st h;simp at h
 |cons y r ih=>
  obtain⟨H,T,i⟩:=y;intro h j st hj
  cases j with
  |zero=>simp at hj;subst hj;exact h.1
  |succ j=>exact ih h.2 j st (by simpa using hj)
structure rN (D:tK)(ops:List Oper)(e0:Env)(aL:List bW)(sts:List pz)(e:Env):Prop where
 st:TU D aL sts
 FA:∀(i:Nat)(x:bW),aL[i]?=some x→UE D ops sts aL i x
 zO:∀(i:Nat)(x:bW),aL[i]?=some x→x.e=aT e0 (aL.take i)
 cur:e=aT e0 aL
theorem jW {nt:Nat}{dst:Option Tmp}{v:AV}{e:Env}{k:Env→Prop}(h:ug nt dst v e k):(∀d,dst=some d→d<nt)∧k (JH dst e v):=by
 cases dst with
 |none=>exact⟨fun d e=>(by cases e),h⟩
 |some d=>exact⟨fun d' e=>(by cases e;exact h.1),h.2⟩
theorem LA {D:tK}{ops:List Oper}{e0:Env}{aL:List bW}{sts:List pz}{e:Env}{next:List bW→List pz→Env→Prop}{o:Oper}{run:Bool}{v:AV}{H H':List aA}{T T':ar}{i0:Nat}(mP:jm D.bu=true)
  (hw:rN D ops e0 aL sts e) (kR:ops[aL.length]?=some o) (cL:sts.getLast?=some (H,T,i0))
  (hgate:match o.guard with|none=>run=true|some (j,want)=>∃b,jN D.all j e=some b∧run=(b==some want)) (ux:run=false→v=.df []∧H'=H∧T'=T) (cK:run=true→dN D.C.P o e H T v H' T')
  (C3:D.bu.contains aL.length=false→H'=H∧T'=T) (h:v8 D next o aL sts e run v H' T') :
  ∃bE dn e',rN D ops e0 bE dn e'∧bE.length=aL.length+1∧next bE dn e'∧dn[0]?=sts[0]?∧dn≠[]:=by
 have dA:sts≠[]:=by intro e;rw[e] at cL;cases cL
 have ji:0<sts.length:=List.length_pos_iff.2 dA;have fP:sts[sts.length-1]?=some (H,T,i0):=by rw[←cL,List.getLast?_eq_getElem?]
 have hlen:=hw.st.len;unfold v8 at h
 split at h
 ·rename_i mn;obtain⟨Zp,ia⟩:=h;obtain⟨kS,uz⟩:=jW ia;obtain⟨ek,es⟩:=gQ mP mn;refine⟨_,_,_,⟨⟨?_,fun i x hx=>?_⟩,fun i x hx=>?_,fun i x hx=>?_,?_⟩,by simp,uz,by rw[getElem?_append_left ji],by simp⟩
  ·simp only[length_append,length_singleton,hlen];rw[es];omega
  ·rcases lt_or_ge i aL.length with hi|hi
   ·rw[getElem?_append_left hi] at hx;exact hw.st.k i x hx
   ·have gX:i=aL.length:=by have:=(List.getElem?_eq_some_iff.1 hx).1;simp at this;omega
    subst gX;simp at hx;subst hx;simp;omega
  ·rcases lt_or_ge i aL.length with hi|hi
   ·rw[getElem?_append_left hi] at hx;have hr:=hw.FA i x hx;refine⟨hr.o,by simp;have:=hr.k;omega,hr.bu,hr.gate,hr.dst,hr.skip,fun h1 h2 k H2 T2 e2 hk CD mY=>?_,fun h1=>?_⟩
    ·rcases lt_or_ge k sts.length with gB|gB
     ·rw[getElem?_append_left gB] at hk;exact hr.still h1 h2 k H2 T2 e2 hk CD mY
     ·have mi:k=sts.length:=by have:=(List.getElem?_eq_some_iff.1 hk).1;simp at this;omega
      subst mi;simp at hk;obtain⟨rfl,rfl,rfl⟩:=hk;rcases mY with mY|mY
      ·have:=hr.k;omega
      ·exact xu Zp i mY x hx h1 h2
    ·obtain⟨Ha,Ta,ea,Hb,Tb,g1,g2,g3,g4⟩:=hr.effect h1;have l1:=(List.getElem?_eq_some_iff.1 g1).1;have l2:=(List.getElem?_eq_some_iff.1 g2).1;exact⟨Ha,Ta,ea,Hb,Tb,by rw[getElem?_append_left l1];exact g1,by rw[getElem?_append_left l2];exact g2,g3,g4⟩
   ·have gX:i=aL.length:=by have:=(List.getElem?_eq_some_iff.1 hx).1;simp at this;omega
    subst gX;simp at hx;subst hx;refine⟨kR,(by rw[length_append,length_singleton];exact(by omega:sts.length-1<sts.length+1)),mn.symm,hgate,kS,fun hr=>(ux hr).1,fun _ h2=>(by cases h2),fun _=>⟨H,T,i0,H',T',by show (sts++[_])[sts.length-1]?=_;rw[getElem?_append_left (by omega)];exact fP,?_,cK,fun hr=>(ux hr).2⟩⟩;show (sts++[_])[sts.length-1+1]?=_;rw[show sts.length-1+1=sts.length by omega];simp
  ·rcases lt_or_ge i aL.length with hi|hi
   ·rw[getElem?_append_left hi] at hx;rw[List.take_append_of_le_length (by omega)];exact hw.zO i x hx
   ·have gX:i=aL.length:=by have:=(List.getElem?_eq_some_iff.1 hx).1;simp at this;omega
    subst gX;simp at hx;subst hx;rw[List.take_append_of_le_length (le_refl _),take_length];exact hw.cur
  ·rw[fC,←hw.cur];rfl
 ·rename_i mn;simp only[Bool.not_eq_true] at mn;obtain⟨hex,ia⟩:=h;obtain⟨kS,uz⟩:=jW ia;obtain⟨rfl,rfl⟩:=C3 mn;refine⟨_,_,_,⟨⟨?_,fun i x hx=>?_⟩,fun i x hx=>?_,fun i x hx=>?_,?_⟩,by simp,uz,rfl,dA⟩
  ·simp only[length_append,length_singleton,hlen];rw[mW mn]
  ·rcases lt_or_ge i aL.length with hi|hi
   ·rw[getElem?_append_left hi] at hx;exact hw.st.k i x hx
   ·have gX:i=aL.length:=by have:=(List.getElem?_eq_some_iff.1 hx).1;simp at this;omega
    subst gX;simp at hx;subst hx;simp;omega
  ·rcases lt_or_ge i aL.length with hi|hi
   ·rw[getElem?_append_left hi] at hx;have hr:=hw.FA i x hx;exact⟨hr.o,hr.k,hr.bu,hr.gate,hr.dst,hr.skip,hr.still,hr.effect⟩
   ·have gX:i=aL.length:=by have:=(List.getElem?_eq_some_iff.1 hx).1;simp at this;omega
    subst gX;simp at hx;subst hx;refine⟨kR,(by exact(by omega:sts.length-1<sts.length)),mn.symm,hgate,kS,fun hr=>(ux hr).1,fun h1 _ k H2 T2 e2 hk CD mY=>?_,fun h=>(by cases h)⟩;simp only at hk CD mY h1 ⊢;have gB:=(List.getElem?_eq_some_iff.1 hk).1;rcases lt_or_ge k (sts.length-1) with aZ|jE
    ·have dg:((sts.drop (D.lo.getD aL.length 0)).dropLast)[k-D.lo.getD aL.length 0]?=some (H2,T2,e2):=by
      rw[List.getElem?_dropLast,if_pos (by rw[List.length_drop];omega),List.getElem?_drop,show D.lo.getD aL.length 0+(k-D.lo.getD aL.length 0)=k by omega];exact hk
     exact xK (hex h1) _ _ dg
    ·have mi:k=sts.length-1:=by omega
     subst mi;rw[fP] at hk
     cases hk
     exact cK h1
  ·rcases lt_or_ge i aL.length with hi|hi
   ·rw[getElem?_append_left hi] at hx;rw[List.take_append_of_le_length (by omega)];exact hw.zO i x hx
   ·have gX:i=aL.length:=by have:=(List.getElem?_eq_some_iff.1 hx).1;simp at this;omega
    subst gX;simp at hx;subst hx;rw[List.take_append_of_le_length (le_refl _),take_length];exact hw.cur
  ·rw[fC,←hw.cur];rfl
theorem Ei {D:tK}{ops:List Oper}{e0:Env}(mP:jm D.bu=true):∀(l:List Oper)(aL:List bW)(sts:List pz)(e:Env),rN D ops e0 aL sts e→ops.drop aL.length=l→aL.length≤ops.length→eE D l aL sts e→
  ∃bE dn H T i,rN D ops e0 bE dn (aT e0 bE)∧bE.length=ops.length∧dn.getLast?=some (H,T,i)∧D.K ⟨aT e0 bE,H,T⟩∧dn[0]?=sts[0]?:=by
 intro l
 induction l with
 |nil=>
  intro aL sts e hw hl hle h;unfold eE at h
  split at h
  ·rename_i H T i cL;have hlen:aL.length=ops.length:=by
    have:=congrArg List.length hl;simp at this;omega
   have hc:=hw.cur;subst hc;exact⟨aL,sts,H,T,i,hw,hlen,cL,h,rfl⟩
  ·exact h.elim
 |cons o r ih=>
  intro aL sts e hw hl hle h;have aZ:aL.length<ops.length:=by
   have:=congrArg List.length hl;simp at this;omega
  have kR:ops[aL.length]?=some o:=by
   have:=congrArg (fun l=>l[0]?) hl;simpa using this
  have pB:ops.drop (aL.length+1)=r:=by
   have:=congrArg (fun l=>l.drop 1) hl;simpa[List.drop_drop,Nat.add_comm] using this
  have fin:∀{H T i0 run v H' T'},sts.getLast?=some (H,T,i0)→(match o.guard with|none=>run=true|some (j,want)=>∃b,jN D.all j e=some b∧run=(b==some want))→(run=false→v=.df []∧H'=H∧T'=T)→(run=true→dN D.C.P o e H T v H' T')→
    (D.bu.contains aL.length=false→H'=H∧T'=T)→v8 D (eE D r) o aL sts e run v H' T'→∃bE dn H T i,rN D ops e0 bE dn (aT e0 bE)∧bE.length=ops.length∧dn.getLast?=some (H,T,i)∧D.K ⟨aT e0 bE,H,T⟩∧dn[0]?=sts[0]?:=by
   intro H T i0 run v H' T' cL hg h1 h2 h3 h4;obtain⟨bE,dn,e',g1,g2,g3,g4,_⟩:=LA mP hw kR cL hg h1 h2 h3 h4;obtain⟨r2,s2,H2,T2,i2,k1,k2,k3,k4,k5⟩:=ih bE dn e' g1 (by rw[g2];exact pB) (by omega) g3;exact⟨r2,s2,H2,T2,i2,k1,k2,k3,k4,k5.trans g4⟩
  have exec:∀{H T i0},sts.getLast?=some (H,T,i0)→(match o.guard with|none=>true=true|some (j,want)=>∃b,jN D.all j e=some b∧true=(b==some want))→kj D (eE D r) o aL sts e H T→
    ∃bE dn H T i,rN D ops e0 bE dn (aT e0 bE)∧bE.length=ops.length∧dn.getLast?=some (H,T,i)∧D.K ⟨aT e0 bE,H,T⟩∧dn[0]?=sts[0]?:=by
   intro H T i0 cL hg hx;unfold kj at hx
   split at hx
   ·rename_i g as ic;obtain⟨v,H',T',hc,hs,hd⟩:=hx;refine fin (run:=true) cL hg (fun e=>by cases e) (fun _=>?_) hs hd;unfold dN;rw[ic];exact hc
   ·rename_i ic
    split at hx
    ·rename_i v H' T' lq;refine fin (run:=true) cL hg (fun e=>by cases e) (fun _=>?_) hx.1 hx.2;unfold dN;rw[ic];exact lq
    ·exact hx.elim
  unfold eE at h
  split at h
  ·rename_i H T i0 cL
   split at h
   ·rename_i hg;exact exec cL (by rw[hg]) h
   ·rename_i j want hg
    split at h
    ·rename_i b hb
     split at h
     ·rename_i th;exact exec cL (by rw[hg];exact⟨b,hb,by simp[th]⟩) h
     ·rename_i th;exact fin (run:=false) cL (by rw[hg];exact⟨b,hb,by simp[th]⟩) (fun _=>⟨rfl,rfl,rfl⟩) (fun e=>by cases e) (fun _=>⟨rfl,rfl⟩) h
    ·exact h.elim
  ·exact h.elim
theorem Bu:∀(l:List Oper)(acc:List Nat)(i:Nat),i<acc.length→(dW l acc)[i]?=acc[i]?:=by
 intro l
 induction l with
 |nil=>intro acc i _;rfl
 |cons o r ih=>
  intro acc i hi;rw[dW,ih _ _ (by simp;omega),getElem?_append_left hi]
def uL (o:Oper)(acc:List Nat):Nat:=o.after.foldl (fun s e=>if Region.binds .any e then s ||| 2 ^ e.on ||| acc.getD e.on 0 else s) 0
theorem Om:∀(l:List Oper)(acc:List Nat)(i:Nat)(o:Oper),l[i]?=some o→∃zR,(dW l acc)[acc.length+i]?=some (uL o zR)∧zR.length=acc.length+i∧∀j,j<zR.length→zR[j]?=(dW l acc)[j]?:=by
 intro l
 induction l with
 |nil=>intro acc i o h;simp at h
 |cons p r ih=>
  intro acc i o h
  cases i with
  |zero=>
   simp at h;subst h;refine⟨acc,?_,by simp,fun j hj=>(Bu _ _ j hj).symm⟩;rw[dW,Bu _ _ _ (by simp)];simp[uL]
  |succ i=>
   obtain⟨zR,h1,h2,h3⟩:=ih (acc++[uL p acc]) i o (by simpa using h);refine⟨zR,?_,by simp at h2;omega,h3⟩;rw[dW];simp at h1;rw[show acc.length+(i+1)=acc.length+1+i by omega];exact h1
theorem Eh (o:Oper)(acc:List Nat)(j:Nat)(h:(uL o acc).testBit j=true):∃e∈o.after,Region.binds .any e=true∧(e.on=j∨(acc.getD e.on 0).testBit j=true):=by
 unfold uL at h;rw[←Array.foldl_toList] at h;have key:∀(l:List Edge)(s:Nat),(l.foldl (fun s e=>if Region.binds .any e then s ||| 2 ^ e.on ||| acc.getD e.on 0 else s) s).testBit j=true→s.testBit j=true∨∃e∈l,Region.binds .any e=true∧(e.on=j∨(acc.getD e.on 0).testBit j=true):=by
  intro l
  induction l with
  |nil=>intro s h;exact .inl h
  |cons e r ih=>
   intro s h;rcases ih _ h with h1|⟨e',h1,h2⟩
   ·dsimp only at h1
    split at h1
    ·rename_i hb;simp only[Nat.testBit_or,Bool.or_eq_true] at h1;rcases h1 with (h1|h1)|h1
     ·exact .inl h1
     ·rw[Nat.testBit_two_pow] at h1;exact .inr ⟨e,by simp,hb,.inl (by simpa using h1)⟩
     ·exact .inr ⟨e,by simp,hb,.inr h1⟩
    ·exact .inl h1
   ·exact .inr ⟨e',by simp[h1],h2⟩
 rcases key _ _ h with h1|⟨e,h1,h2⟩
 ·simp at h1
 ·exact⟨e,by simpa using h1,h2⟩
theorem mI {ops:List Oper}{ay:Array Bool}(fK:∀i j,ay.getD i false=true→j7 (dW ops []) j i=true→ay.getD j false=true)
  {i:Nat} {o:Oper} (ho:ops[i]?=some o) (hr:∀e∈o.after,Region.binds .any e=true→ay.getD e.on false=true) (JB:∀e∈o.after,Region.binds .any e=true→e.on<i) {j:Nat} (hj:j7 (dW ops []) j i=true):ay.getD j false=true:=by
 obtain⟨zR,h1,h2,h3⟩:=Om ops [] i o ho;simp at h1 h2;unfold j7 at hj;rw[getD_eq_getElem?_getD,h1] at hj;obtain⟨e,he,hb,h4⟩:=Eh o zR j hj;have hl:=hr e he hb;rcases h4 with h4|h4
 ·rw[←h4];exact hl
 ·refine fK e.on j hl ?_;unfold j7;have aZ:=JB e he hb;rw[getD_eq_getElem?_getD,←h3 e.on (by omega),←getD_eq_getElem?_getD];exact h4
theorem ln {ops:List Oper}{bu lo:List Nat}{na:List (List Nat)}(h:iU ops bu lo na=true) :
  (∀(i j:Nat)(x y:Oper)(d:Tmp),ops[i]?=some x→ops[j]?=some y→x.dst=some d→y.dst=some d→i=j)∧
  (∀(i j:Nat)(x y:Oper)(t:Tmp),ops[i]?=some x→ops[j]?=some y→t∈x.looksAt ops.toArray→y.dst=some t→i≠j∧((j<i∧j7 (dW ops []) j i=true)∨(i<j∧j7 (dW ops []) i j=true)))∧
  (∀k e,bu[k]?=some e→e<ops.length∧(0<k→∃e',bu[k-1]?=some e'∧j7 (dW ops []) e' e=true))∧
  (∀i,i<ops.length→lo.getD i 0≤EK (dW ops []) bu i)∧
  (∀k e,bu[k]?=some e→∀j,j<e→bu.contains j=true∨(na.getD k []).contains j=true∨j7 (dW ops []) j e=true)∧
  (∀(i:Nat)(x:Oper),ops[i]?=some x→∀e∈x.after,Region.binds .any e=true→e.on<i)∧Region.noSelect ops.toArray=true:=by
 unfold iU at h;simp only[Bool.and_eq_true] at h;obtain⟨⟨⟨⟨⟨⟨⟨⟨⟨h1,h2⟩,h3⟩,h4⟩,h5⟩,h6⟩,h7⟩,h8⟩,h9⟩,I0⟩:=h;have at_:∀{i:Nat} {x:Oper},ops[i]?=some x→i<ops.length∧ops.getD i default=x:=fun {i x} hi=>by
  obtain⟨a,b⟩:=List.getElem?_eq_some_iff.1 hi;exact⟨a,by rw[getD_eq_getElem?_getD,hi];rfl⟩
 have RK:∀{k e:Nat},bu[k]?=some e→k<bu.length∧bu.getD k 0=e:=fun {k e} hi=>by
  obtain⟨a,b⟩:=List.getElem?_eq_some_iff.1 hi;exact⟨a,by rw[getD_eq_getElem?_getD,hi];rfl⟩
 refine⟨fun i j x y d hi hj hx hy=>?_,fun i j x y t hi hj ht hy=>?_,fun k e hk=>⟨?_,fun ji=>?_⟩,fun i hi=>?_,fun k e hk j hj=>?_,fun i x hi e he hb=>?_,I0⟩
 ·obtain⟨a1,a2⟩:=at_ hi;obtain⟨b1,b2⟩:=at_ hj;have:=List.all_eq_true.1 (List.all_eq_true.1 h1 i (List.mem_range.2 a1)) j (List.mem_range.2 b1);rw[a2,b2,hx,hy] at this;simpa using this
 ·obtain⟨a1,a2⟩:=at_ hi;obtain⟨b1,b2⟩:=at_ hj;have dA:i≠j:=by
   rintro rfl;have e1:x=y:=by rw[hi] at hj;injection hj
   subst e1;have:=List.all_eq_true.1 (List.all_eq_true.1 h3 i (List.mem_range.2 a1)) t (by rw[a2];exact ht);rw[a2,hy] at this;simp at this
  have:=List.all_eq_true.1 (List.all_eq_true.1 (List.all_eq_true.1 h2 i (List.mem_range.2 a1)) t (by rw[a2];exact ht)) j (List.mem_range.2 b1);rw[b2,hy] at this;refine⟨dA,?_⟩;simpa[dA] using this
 ·obtain⟨a1,a2⟩:=RK hk;have:=List.all_eq_true.1 h5 e (List.mem_of_getElem? hk);simpa using this
 ·obtain⟨a1,a2⟩:=RK hk;have:=List.all_eq_true.1 h4 k (List.mem_range.2 a1);have Mt:(k==0)=false:=by simp;omega
  rw[Mt,a2] at this;have CF:k-1<bu.length:=by omega
  refine⟨bu[k-1],getElem?_eq_getElem CF,?_⟩;have e2:bu.getD (k-1) 0=bu[k-1]:=by rw[getD_eq_getElem?_getD,getElem?_eq_getElem CF];rfl
  rw[e2] at this;simpa using this
 ·have:=List.all_eq_true.1 h7 i (List.mem_range.2 hi);simpa using this
 ·obtain⟨a1,a2⟩:=RK hk;have:=List.all_eq_true.1 (List.all_eq_true.1 h8 k (List.mem_range.2 a1)) j (List.mem_range.2 (by rw[a2];exact hj));rw[a2] at this;simp only[Bool.or_eq_true] at this;rcases this with (h|h)|h
  ·exact .inl h
  ·exact .inr (.inl h)
  ·exact .inr (.inr h)
 ·obtain⟨a1,a2⟩:=at_ hi;have:=Array.all_eq_true_iff_forall_mem.1 (List.all_eq_true.1 h9 i (List.mem_range.2 a1)) e (by rw[a2];exact he);rw[hb] at this;simpa using this
def kq (e:Env):List Tmp→Env
 |[]=>[]
 |t::r=>(t,bF e t)::kq e r
theorem dZ (e:Env):∀(l:List Tmp)(t:Tmp),bF (kq e l) t=if t∈l then bF e t else .top:=by
 intro l
 induction l with
 |nil=>intro t;rfl
 |cons s r ih=>
  intro t;simp only[kq,bF]
  by_cases h:s=t
  ·subst h;simp
  ·rw[if_neg h,ih];have:t≠s:=fun e=>h e.symm;simp[this]
def VS (aL:List bW)(ay:Array Bool)(e0:Env)(t:Nat)(v:AV):Prop:=
 (∃j x,aL[j]?=some x∧x.o.dst=some t∧ay.getD j false=true∧v=x.v)∨
 ((∀j x,aL[j]?=some x→x.o.dst=some t→ay.getD j false=false)∧v=bF e0 t)
structure Inv (D:tK)(s:St)(aL:List bW)(sts:List pz)(L0:Lay)(w0:World)(ay:Array Bool)(a:Act)(w:World):Prop where
 size:ay.size=aL.length
 closed:∀i j,ay.getD i false=true→j7 (dW (aL.map (·.o)) []) j i=true→ay.getD j false=true
 st:∃k H T e L,(∀(m i:Nat),D.bu[m]?=some i→(ay.getD i false=true↔m<k))∧k≤D.bu.length∧sts[k]?=some (H,T,e)∧bT L H T w∧D.C.nb≤H.length∧D.C.tb≤T.length∧
  (∀t,∃v,VS aL ay s.e t v∧bc L H.length T w v (a.tmps.getD t undef))∧Ev D.C.nb D.C.tb L0 s.H.length s.T w0 L H.length T w
 tmps:a.tmps.size=D.C.nt
 defers:a.defers=[]
theorem dj {ay:Array Bool}{j:Nat}(h:j<ay.size):ay.getD j true=ay.getD j false:=by
 simp[h]
theorem sf {C:Cx}{ops:List Oper}{Q:Exit→St→Prop}{s:St}(K:St→Prop)(bu lo:List Nat)(na:List (List Nat))(mP:iU ops bu lo na=true)(pK:jm bu=true)
  (h:eE ⟨C,ops.toArray,bu,lo,na,K⟩ ops [] [(s.H,s.T,0)] (prune C.nv s.e)):∀L0 w0 a0,eF C s L0 w0 a0→
   wpAny C.P .any ops.toArray (dh C (dL K Q) L0 s w0) ops.toArray.size (Array.replicate ops.toArray.size false) a0 { w0 with drawn:=w0.drawn+1 }:=by
 intro L0 w0 a0 nE;have hc:eF C ⟨prune C.nv s.e,s.H,s.T⟩ L0 w0 a0:=⟨nE.nb,nE.tb,nE.mQ,nE.size,nE.defers,fun t=>by
  rcases mH C.nv s.e t with e|e<;>rw[e]
  ·exact nE.env t
  ·exact .top _⟩
 generalize vU:(⟨prune C.nv s.e,s.H,s.T⟩:St)=s' at hc;have IA:prune C.nv s.e=s'.e:=by rw[←vU]
 have CB:s.H=s'.H:=by rw[←vU]
 have IW:s.T=s'.T:=by rw[←vU]
 rw[IA,CB,IW] at h;rw[show dh C (dL K Q) L0 s w0=dh C (dL K Q) L0 s' w0 by unfold dh;rw[CB,IW]];clear vU IA CB IW nE;generalize hD:(⟨C,ops.toArray,bu,lo,na,K⟩:tK)=D at h;have mj:D.C=C:=by rw[←hD]
 have mZ:D.bu=bu:=by rw[←hD]
 have EB:D.lo=lo:=by rw[←hD]
 have RG:D.na=na:=by rw[←hD]
 have RH:D.all=ops.toArray:=by rw[←hD]
 have ZJ:D.K=K:=by rw[←hD]
 obtain⟨aL,sts,HL,TL,iL,hw,hlen,cL,hKK,aae⟩:=Ei (D:=D) (ops:=ops) (e0:=s'.e) (by rw[mZ];exact pK) ops [] [(s'.H,s'.T,0)] s'.e
  ⟨⟨by simp,fun i x hx=>by simp at hx⟩,fun i x hx=>by simp at hx,fun i x hx=>by simp at hx,rfl⟩ (by simp) (by simp) h
 obtain⟨d1,d2,d3,d4,d5,d6,d7⟩:=ln mP;have FH:∀(i:Nat)(x:bW),aL[i]?=some x→ops[i]?=some x.o:=fun i x hx=>(hw.FA i x hx).o;have CP:aL.map (·.o)=ops:=by
  apply List.ext_getElem?;intro i;rw[List.getElem?_map]
  by_cases hi:i<aL.length
  ·rw[getElem?_eq_getElem hi,Option.map_some,FH i _ (getElem?_eq_getElem hi)]
  ·rw[List.getElem?_eq_none (by omega),List.getElem?_eq_none (by omega)];rfl
 have Qa:∀i,i<ops.length→∃x:bW,aL[i]?=some x:=fun i hi=>⟨_,getElem?_eq_getElem (by omega)⟩
 have P8:sts.length=1+bu.length:=by
  have h1:=hw.st.len;rw[mZ] at h1;rw[h1]
  congr 2
  apply List.filter_eq_self.2;intro e he;obtain⟨k,hk,e1⟩:=List.mem_iff_getElem.1 he;have:=(d3 k e (by rw[getElem?_eq_getElem hk,e1])).1;simp;omega
 have key:∀(fuel:Nat)(ay:Array Bool)(a:Act)(w:World),Inv D s' aL sts L0 w0 ay a w→(∀i,i<ops.length→ay.getD i false=true)∨(List.range ops.length).countP (fun i=>!ay.getD i false)≤fuel→
   wpAny C.P .any ops.toArray (dh C (dL K Q) L0 s' w0) fuel ay a w:=by
  have done:∀(ay:Array Bool)(a:Act)(w:World),Inv D s' aL sts L0 w0 ay a w→(∀i,i<ops.length→ay.getD i false=true)→dh C (dL K Q) L0 s' w0 .normal a w:=by
   intro ay a w hI fj;obtain⟨k,H,T,e,L,hk,gB,pk,cT,fO,eS,fV,dP⟩:=hI.st;have pI:k=bu.length:=by
    rw[mZ] at hk gB;rcases lt_or_ge k bu.length with aZ|jE
    ·have:=(hk k _ (getElem?_eq_getElem aZ)).1 (fj _ (d3 k _ (getElem?_eq_getElem aZ)).1);omega
    ·omega
   have Jf:sts[k]?=some (HL,TL,iL):=by rw[←cL,List.getLast?_eq_getElem?,P8,pI];congr 1;omega
   rw[pk] at Jf;obtain⟨rfl,rfl,rfl⟩:H=HL∧T=TL∧e=iL:=by injection Jf with h1;injection h1 with h1 h2;injection h2 with h2 h3;exact⟨h1,h2,h3⟩
   rw[ZJ] at hKK;rw[mj] at dP fO eS;refine⟨_,L,hKK,⟨fO,eS,cT,by rw[hI.tmps,mj],hI.defers,fun t=>?_⟩,dP⟩;obtain⟨v,hv,hr⟩:=fV t;show bc L H.length T w (bF (aT s'.e aL) t) _;rcases hv with⟨j,x,hx,hd,hl,rfl⟩|⟨nC,rfl⟩
   ·rw[eg aL s'.e t j x hx hd (fun i y hy IS=>d1 i j y.o x.o t (FH i y hy) (FH j x hx) IS hd)];exact hr
   ·rw[cp aL s'.e t (fun x hx hd=>by
     obtain⟨j,hj,e1⟩:=List.mem_iff_getElem.1 hx;have h1:=nC j x (by rw[getElem?_eq_getElem hj,e1]) hd;have h2:=fj j (by omega);rw[h1] at h2;cases h2)]
    exact hr
  have Sa:∀(ay:Array Bool)(a:Act)(w:World)(i:Nat)(KK:Act→World→Prop),Inv D s' aL sts L0 w0 ay a w→i∈Region.ready .any ops.toArray ay→
    (∀a' w',Inv D s' aL sts L0 w0 (ay.setIfInBounds i true) a' w'→KK a' w')→wpOp C.P ops.toArray (dh C (dL K Q) L0 s' w0) i KK a w:=by
   intro ay a w i KK hI hi Jm;obtain⟨zA,o,ho,pZ⟩:=mem_ready.1 hi;rw[getElem?_toArray] at ho;have cC:i<ops.length:=(List.getElem?_eq_some_iff.1 ho).1;have jL:i<ay.size:=by rw[hI.size];omega
   have pR:ay.getD i false=false:=by rw[←dj jL];exact zA
   obtain⟨x,hx⟩:=Qa i cC;have yg:x.o=o:=by have:=FH i x hx;rw[ho] at this;injection this with this;exact this.symm
   have hR:=hw.FA i x hx;have fK:∀i j,ay.getD i false=true→j7 (dW ops []) j i=true→ay.getD j false=true:=by
    have:=hI.closed;rw[CP] at this;exact this
   have gT:∀j,j7 (dW ops []) j i=true→ay.getD j false=true:=fun j hj=>mI fK ho pZ (d6 i o ho) hj;obtain⟨k,H,T,e,L,hk,gB,pk,cT,fO,eS,fV,dP⟩:=hI.st;rw[mZ] at hk gB;rw[mj] at fO eS dP;have dH:∀t∈o.looksAt ops.toArray,∀v,VS aL ay s'.e t v→v=bF x.e t:=by
    intro t ht v hv;rw[hw.zO i x hx];have FG:∀(j:Nat)(z:bW),aL[j]?=some z→z.o.dst=some t→i≠j∧((j<i∧j7 (dW ops []) j i=true)∨(i<j∧j7 (dW ops []) i j=true)):=fun j z hz hd=>d2 i j o z.o t ho (FH j z hz) ht hd;rcases hv with⟨j,z,hz,hd,hl,rfl⟩|⟨nC,rfl⟩
    ·obtain⟨dA,h1|h1⟩:=FG j z hz hd
     ·rw[eg (aL.take i) s'.e t j z (by rw[List.getElem?_take,if_pos h1.1];exact hz) hd (fun i' y' zo SL=>by
       rw[List.getElem?_take] at zo
       split at zo
       ·exact d1 i' j y'.o z.o t (FH i' y' zo) (FH j z hz) SL hd
       ·cases zo)]
     ·have:=fK j i hl h1.2;rw[pR] at this;cases this
    ·rw[cp (aL.take i) s'.e t (fun z hz hd=>by
      obtain⟨j,hj,e1⟩:=List.mem_iff_getElem.1 hz;simp at hj;have Ep:aL[j]?=some z:=by rw[getElem?_eq_getElem (by omega),←e1];simp
      have hf:=nC j z Ep hd;obtain⟨dA,h1|h1⟩:=FG j z Ep hd
      ·have:=gT j h1.2;rw[hf] at this;cases this
      ·omega)]
   have pq:ew L H.length T w (kq x.e (o.looksAt ops.toArray)) a:=by
    intro t;rw[dZ]
    split
    ·rename_i ht;obtain⟨v,hv,hr⟩:=fV t;rw[←dH t ht v hv];exact hr
    ·exact .top _
   have yq:∀z∈o.op.operands,bK x.e z=bK (kq x.e (o.looksAt ops.toArray)) z:=by
    intro z hz
    cases z with
    |tmp t=>
     have:t∈o.looksAt ops.toArray:=by
      unfold Oper.looksAt;exact List.mem_append.2 (.inl (List.mem_filterMap.2 ⟨_,Array.mem_toList_iff.2 hz,rfl⟩))
     simp only[bK,dZ,if_pos this]
    |_=>rfl
   have behind:∀(H':List aA)(T':ar)(cv:Value)(w':World)(L':Lay),bT L' H' T' w'→bc L' H'.length T' w' x.v cv→Ev H.length T.length L H.length T w L' H'.length T' w'→
     ((bu.contains i=false∧H'=H∧T'=T)∨(bu.contains i=true∧bu[k]?=some i∧∃e',sts[k+1]?=some (H',T',e')))→KK (a.put o.dst cv) w':=by
    intro H' T' cv w' L' qD qB ml mY;refine Jm _ _ ⟨by simp[hI.size],fun i' j' mO iP=>?_,?_,?_,by cases o.dst<;>exact hI.defers⟩
    ·rw[CP] at iP
     by_cases s8:i=i'
     ·subst s8;have:=gT j' iP
      by_cases jt:i=j'
      ·subst jt;rw[pR] at this;cases this
      ·rw[getD_set_ne false jt];exact this
     ·rw[getD_set_ne false s8] at mO;have:=fK i' j' mO iP;exact getD_set_true this
    ·have jh:∀t,∃v,VS aL (ay.setIfInBounds i true) s'.e t v∧bc L' H'.length T' w' v ((a.put o.dst cv).tmps.getD t undef):=by
      intro t
      by_cases hd:o.dst=some t
      ·refine⟨x.v,.inl ⟨i,x,hx,by rw[yg];exact hd,by simp[jL],rfl⟩,?_⟩;have aZ:t<a.tmps.size:=by rw[hI.tmps];exact hR.dst t (by rw[yg];exact hd)
       rw[hd,iw a t t cv aZ,if_pos rfl];exact qB
      ·obtain⟨v,hv,hr⟩:=fV t;refine⟨v,?_,?_⟩
       ·rcases hv with⟨j,z,hz,sV,hl,rfl⟩|⟨nC,rfl⟩
        ·exact .inl ⟨j,z,hz,sV,getD_set_true hl,rfl⟩
        ·refine .inr ⟨fun j z hz sV=>?_,rfl⟩;have jt:i≠j:=by
          rintro rfl;rw[hx] at hz
          cases hz
          rw[yg] at sV;exact hd sV
         rw[getD_set_ne false jt];exact nC j z hz sV
       ·have e1:(a.put o.dst cv).tmps.getD t undef=a.tmps.getD t undef:=by
         cases kS:o.dst with
         |none=>rfl
         |some d=>
          have aZ:d<a.tmps.size:=by rw[hI.tmps];exact hR.dst d (by rw[yg];exact kS)
          rw[iw a d t cv aZ,if_neg (fun e=>hd (by rw[kS,e]))]
        rw[e1];exact hr.keep ml.keeps
     have Ji:=dP.trans (ml.mono fO eS);rcases mY with⟨dA,rfl,rfl⟩|⟨heq,ry,e',Ja⟩
     ·refine⟨k,H',T',e,L',fun m i' qi=>?_,by rw[mZ];exact gB,pk,qD,by rw[mj];exact fO,by rw[mj];exact eS,jh,by rw[mj];exact Ji⟩;rw[mZ] at qi;have s8:i≠i':=by
       rintro rfl;have:=List.mem_of_getElem? qi;rw[←List.contains_iff_mem] at this;rw[dA] at this;cases this
      rw[getD_set_ne false s8];exact hk m i' qi
     ·refine⟨k+1,H',T',e',L',fun m i' qi=>?_,by rw[mZ];have:=(List.getElem?_eq_some_iff.1 ry).1;omega,Ja,qD,by rw[mj];exact le_trans fO ml.n,by rw[mj];exact le_trans eS ml.t,jh,by rw[mj];exact Ji⟩;rw[mZ] at qi
      by_cases s8:i=i'
      ·subst s8;have e1:=(gQ pK heq).1;have Mq:∀m',bu[m']?=some i→m'=(bu.filter (·<i)).length:=by
        intro m' Je;have hY:=(List.getElem?_eq_some_iff.1 Je).1;have:=List.all_eq_true.1 pK m' (List.mem_range.2 hY);simp only[Bool.and_eq_true,beq_iff_eq,getD_eq_getElem?_getD,Je,Option.getD_some] at this;exact this.1.symm
       have h1:=Mq m qi;have h2:=Mq k ry;simp[jL];omega
      ·rw[getD_set_ne false s8,hk m i' qi]
       constructor
       ·intro h;omega
       ·intro h;rcases lt_or_ge m k with h1|h1
        ·exact h1
        ·have:m=k:=by omega
         subst this;rw[ry] at qi
         injection qi with qi
         exact absurd qi s8
    ·simp[Act.put];cases o.dst<;>simp[hI.tmps]
   have uG:bu.contains i=true→bu[k]?=some i∧x.k=k:=by
    intro heq;obtain⟨e1,_⟩:=gQ pK heq;have rB:=hw.st.k i x hx;rw[mZ] at rB;have jE:k≤(bu.filter (·<i)).length:=by
     rcases lt_or_ge (bu.filter (·<i)).length k with h1|h1
     ·have:=(hk _ i e1).2 h1;rw[pR] at this;cases this
     ·exact h1
    have hle:(bu.filter (·<i)).length≤k:=by
     rcases Nat.eq_zero_or_pos (bu.filter (·<i)).length with h0|h0
     ·omega
     ·obtain⟨e',h1,h2⟩:=(d3 _ i e1).2 h0;have:=(hk _ e' h1).1 (gT e' h2);omega
    have:(bu.filter (·<i)).length=k:=by omega
    exact⟨by rw[←this];exact e1,by omega⟩
   have SF:∀j b,jN D.all j x.e=some b→o.guard=some (j,true)∨o.guard=some (j,false)→yielded ops.toArray a.tmps j=b:=by
    intro j b hb hg;rw[RH] at hb;refine mL pq ?_;unfold jN at hb ⊢
    split at hb
    ·rename_i d hd;have:d∈o.looksAt ops.toArray:=by
      unfold Oper.looksAt;refine List.mem_append.2 (.inr ?_);rcases hg with hg|hg<;>rw[hg]<;>simp only[hd]<;>simp
     rw[dZ,if_pos this];exact hb
    ·cases hb
   unfold wpOp;rw[getElem?_toArray,ho]
   dsimp only
   have hgate:=hR.gate;rw[yg] at hgate
   by_cases cK:x.run=true
   ·
    have nS:Region.wanted o (yielded ops.toArray a.tmps)=true:=by
     unfold Region.wanted
     cases hg:o.guard with
     |none=>rfl
     |some jw=>
      obtain⟨j,want⟩:=jw;rw[hg] at hgate;obtain⟨b,hb,iE⟩:=hgate;have:=SF j b hb (by cases want<;>simp[hg]);rw[cK] at iE;simp only[this];have th:b=some want:=by simpa using iE.symm
      simp[th]
    rw[if_pos nS];refine .inl ?_;have Sj:∃H' T',dN C.P o x.e H T x.v H' T'∧((bu.contains i=false∧H'=H∧T'=T)∨(bu.contains i=true∧bu[k]?=some i∧∃e',sts[k+1]?=some (H',T',e'))):=by
     cases heq:bu.contains i with
     |false=>
      have IT:x.bu=false:=by rw[hR.bu,mZ];exact heq
      have eM:=hR.still cK IT k H T e pk ?_ ?_
      ·rw[mj,yg] at eM;exact⟨H,T,eM,.inl ⟨rfl,rfl,rfl⟩⟩
      ·rw[EB];refine le_trans (d4 i cC) ?_;unfold EK;have aac:∀e'∈bu.filter (fun e=>j7 (dW ops []) e i),∃m,m<k∧bu[m]?=some e':=by
        intro e' s9;obtain⟨h1,h2⟩:=List.mem_filter.1 s9;obtain⟨m,FI,IB⟩:=List.mem_iff_getElem.1 h1;have Mr:bu[m]?=some e':=by rw[getElem?_eq_getElem FI,IB]
        exact⟨m,(hk m e' Mr).1 (gT e' h2),Mr⟩
       have hle:(bu.filter (fun e=>j7 (dW ops []) e i)).length≤(bu.take k).length:=by
        have e1:bu.filter (fun e=>j7 (dW ops []) e i)=(bu.take k).filter (fun e=>j7 (dW ops []) e i)++(bu.drop k).filter (fun e=>j7 (dW ops []) e i):=by
         rw[←List.filter_append,List.take_append_drop]
        have e2:(bu.drop k).filter (fun e=>j7 (dW ops []) e i)=[]:=by
         rw[List.filter_eq_nil_iff];intro e' s9 iP;obtain⟨m,FI,IB⟩:=List.mem_iff_getElem.1 s9;simp at FI;have Mr:bu[k+m]?=some e':=by
          rw[getElem?_eq_getElem (by omega),←IB];simp
         have:=(hk (k+m) e' Mr).1 (gT e' iP);omega
        rw[e1,e2,List.append_nil];exact List.length_filter_le _ _
       refine le_trans hle ?_;simp;omega
      ·rcases lt_or_ge x.k k with aZ|jE
       ·right
        rw[RG];have pI:k-1<bu.length:=by omega
        have s9:=getElem?_eq_getElem pI;have wG:=(hk (k-1) _ s9).2 (by omega);have L6:i<bu[k-1]:=by
         rcases lt_or_ge i bu[k-1] with h1|h1
         ·exact h1
         ·exfalso;have dA:bu[k-1]≠i:=by
           intro e1;have:=List.mem_of_getElem? s9;rw[e1,←List.contains_iff_mem] at this;rw[heq] at this;cases this
          have rB:=hw.st.k i x hx;rw[mZ] at rB;have h2:=List.all_eq_true.1 pK (k-1) (List.mem_range.2 pI);simp only[Bool.and_eq_true,beq_iff_eq,getD_eq_getElem?_getD,s9,Option.getD_some] at h2;have h3:(bu.filter (·<bu[k-1]+1)).length≤(bu.filter (·<i)).length:=by
           rw[←List.countP_eq_length_filter,←List.countP_eq_length_filter];exact List.countP_mono_left (fun z _ hz=>by simp at hz ⊢;omega)
          omega
        rcases d5 (k-1) _ s9 i L6 with h1|h1|h1
        ·rw[heq] at h1;cases h1
        ·exact h1
        ·have:=fK _ i wG h1;rw[pR] at this;cases this
       ·exact .inl jE
     |true=>
      have IT:x.bu=true:=by rw[hR.bu,mZ];exact heq
      obtain⟨ry,rB⟩:=uG heq;obtain⟨Ha,Ta,ea,Hb,Tb,g1,g2,g3,_⟩:=hR.effect IT;rw[rB,pk] at g1;obtain⟨rfl,rfl⟩:H=Ha∧T=Ta:=by injection g1 with h1;injection h1 with h1 h2;injection h2 with h2 h3;exact⟨h1,h2⟩
      rw[rB] at g2;have:=g3 cK;rw[mj,yg] at this;exact⟨Hb,Tb,this,.inr ⟨rfl,ry,i,g2⟩⟩
    obtain⟨H',T',hex,mY⟩:=Sj;exact rk (oE yq hex) cT pq fun cv w' L' g1 g2 g3=>behind H' T' cv w' L' g1 g2 g3 mY
   ·
    have nT:x.run=false:=by simpa using cK
    have nS:Region.wanted o (yielded ops.toArray a.tmps)=false:=by
     unfold Region.wanted
     cases hg:o.guard with
     |none=>rw[hg] at hgate;rw[hgate] at nT;cases nT
     |some jw=>
      obtain⟨j,want⟩:=jw;rw[hg] at hgate;obtain⟨b,hb,iE⟩:=hgate;have:=SF j b hb (by cases want<;>simp[hg]);rw[nT] at iE;simp only[this];have th:b≠some want:=by simpa using iE.symm
      simp[th]
    rw[if_neg (by simp[nS])];have hv:x.v=.df []:=hR.skip nT
    cases heq:bu.contains i with
    |false=>exact behind H T undef w L cT (by rw[hv];exact .df [] #[] rfl (fun j hj=>by simp at hj)) (Ev.refl (le_refl _) (le_refl _)) (.inl ⟨heq,rfl,rfl⟩)
    |true=>
     have IT:x.bu=true:=by rw[hR.bu,mZ];exact heq
     obtain⟨ry,rB⟩:=uG heq;obtain⟨Ha,Ta,ea,Hb,Tb,g1,g2,_,g4⟩:=hR.effect IT;rw[rB,pk] at g1;obtain⟨rfl,rfl⟩:H=Ha∧T=Ta:=by injection g1 with h1;injection h1 with h1 h2;injection h2 with h2 h3;exact⟨h1,h2⟩
     obtain⟨rfl,rfl⟩:=g4 nT;rw[rB] at g2;exact behind _ _ undef w L cT (by rw[hv];exact .df [] #[] rfl (fun j hj=>by simp at hj)) (Ev.refl (le_refl _) (le_refl _)) (.inr ⟨heq,ry,i,g2⟩)
  have kF:∀(ay:Array Bool),ay.size=aL.length→Region.ready .any ops.toArray ay=[]→∀i,i<ops.length→ay.getD i false=true:=by
   intro ay iQ hr i
   induction i using Nat.strongRecOn with
   |_ i ih=>
    intro cC
    cases Rp:ay.getD i false with
    |true=>rfl
    |false=>
     exfalso;have iR:i∈Region.ready .any ops.toArray ay:=by
      refine mem_ready.2 ⟨by rw[dj (by omega)];exact Rp,ops[i],by rw[getElem?_toArray,getElem?_eq_getElem cC],fun e he hb=>?_⟩;have aZ:=d6 i _ (getElem?_eq_getElem cC) e he hb;exact ih e.on aZ (by omega)
     rw[hr] at iR;simp at iR
  intro fuel
  induction fuel with
  |zero=>
   intro ay a w hI rI;have fj:∀i,i<ops.length→ay.getD i false=true:=by
    rcases rI with h1|h1
    ·exact h1
    ·intro i hi;have h2:(List.range ops.length).countP (fun i=>!ay.getD i false)=0:=by omega
     have:=List.countP_eq_zero.1 h2 i (List.mem_range.2 hi);simpa using this
   refine⟨?_,done ay a w hI fj⟩;rw[List.eq_nil_iff_forall_not_mem];intro i hi;obtain⟨h1,o,ho,_⟩:=mem_ready.1 hi;rw[getElem?_toArray] at ho;have cC:=(List.getElem?_eq_some_iff.1 ho).1;rw[dj (by rw[hI.size];omega),fj i cC] at h1
   cases h1
  |succ fuel ih=>
   intro ay a w hI rI;refine⟨fun hr=>done ay a w hI (kF ay hI.size hr),fun i hi=>?_⟩;refine Sa ay a w i _ hI hi fun a' w' PD=>ih _ a' w' PD ?_;obtain⟨h1,o,ho,_⟩:=mem_ready.1 hi;rw[getElem?_toArray] at ho;have cC:=(List.getElem?_eq_some_iff.1 ho).1;have jL:i<ay.size:=by rw[hI.size];omega
   rw[dj jL] at h1;rcases rI with h2|h2
   ·rw[h2 i cC] at h1;cases h1
   ·right
    have:(List.range ops.length).countP (fun j=>!(ay.setIfInBounds i true).getD j false)+1≤(List.range ops.length).countP (fun j=>!ay.getD j false):=by
     have JY:(List.range ops.length).countP (fun j=>!ay.getD j false)=(List.range ops.length).countP (fun j=>!(ay.setIfInBounds i true).getD j false)+(List.range ops.length).countP (fun j=>decide (j=i)):=by
      generalize List.range ops.length=l
      induction l with
      |nil=>rfl
      |cons y r Se=>
       simp only[List.countP_cons,Se]
       by_cases hy:y=i
       ·subst hy;simp[h1,jL];omega
       ·rw[getD_set_ne false (fun e=>hy e.symm)];simp[hy];omega
     have ji:0<(List.range ops.length).countP (fun j=>decide (j=i)):=List.countP_pos_iff.2 ⟨i,List.mem_range.2 cC,by simp⟩;omega
    omega
 have iQ:ops.toArray.size=ops.length:=by simp
 rw[iQ];refine key ops.length _ a0 _ ⟨by simp[hlen],fun i j hl _=>?_,⟨0,s'.H,s'.T,0,L0,fun m i W2=>?_,Nat.zero_le _,by rw[aae];rfl,hc.mQ.drew rfl,by rw[mj];exact hc.nb,by rw[mj];exact hc.tb,fun t=>?_,?_⟩,by rw[mj];exact hc.size,hc.defers⟩ (.inr ?_)
 ·exfalso
  by_cases hi:i<ops.length<;>simp[hi] at hl
 ·constructor
  ·intro hl;exfalso
   by_cases hi:i<ops.length<;>simp[hi] at hl
  ·intro h;omega
 ·refine⟨bF s'.e t,.inr ⟨fun j x hx hd=>?_,rfl⟩,?_⟩
  ·by_cases hj:j<ops.length<;>simp[hj]
  ·have kd:cS L0 s'.H.length s'.T w0 L0 s'.H.length s'.T { w0 with drawn:=w0.drawn+1 }:=(Ev.drew (H:=s'.H) (T:=s'.T) (L:=L0) (w:=w0) (w':={ w0 with drawn:=w0.drawn+1 }) rfl rfl rfl rfl (Nat.le_succ _)).keeps;exact(hc.env t).keep kd
 ·rw[mj];exact(Ev.drew (H:=s'.H) (T:=s'.T) (L:=L0) (w:=w0) (w':={ w0 with drawn:=w0.drawn+1 }) rfl rfl rfl rfl (Nat.le_succ _)).mono hc.nb hc.tb
 ·refine le_trans (List.countP_le_length) ?_;simp
theorem Br {C:Cx}{id:Nat}{ops:List Oper}{Q:Exit→St→Prop}{s:St}(K:St→Prop)(bu lo:List Nat)(na:List (List Nat))(hm:C.P.follows .mixedOrders=true)(mP:iU ops bu lo na=true)(pK:jm bu=true)
  (h:eE ⟨C,ops.toArray,bu,lo,na,K⟩ ops [] [(s.H,s.T,0)] (prune C.nv s.e)):AW C (.region id ops.toArray true) (dL K Q) s:=
 fun L0 w0 a0 nE=>wp_region_any hm (sf K bu lo na mP pK h L0 w0 a0 nE)
theorem aI {C:Cx}{id:Nat}{ops:List Oper}{Q:Exit→St→Prop}{s:St}{y:Code}(bu lo:List Nat)(na:List (List Nat))(hm:C.P.follows .mixedOrders=true)(mP:iU ops bu lo na=true)(pK:jm bu=true)
  (h:∀K:St→Prop,(∀s,AW C y Q s→K s)→eE ⟨C,ops.toArray,bu,lo,na,K⟩ ops [] [(s.H,s.T,0)] (prune C.nv s.e)):AW C (.seq (.region id ops.toArray true) y) Q s:=
 yF fun K hK=>Br K bu lo na hm mP pK (h K hK)
theorem bZ {C:Cx}{id:Nat}{ops:List Oper}{Q:Exit→St→Prop}{s:St}(bu lo:List Nat)(na:List (List Nat))(hm:C.P.follows .mixedOrders=true)(mP:iU ops bu lo na=true)(pK:jm bu=true)
  (h:∀K:St→Prop,(∀s,Q .normal s→K s)→eE ⟨C,ops.toArray,bu,lo,na,K⟩ ops [] [(s.H,s.T,0)] (prune C.nv s.e)):AW C (.region id ops.toArray true) Q s:=
 (Br (Q:=Q) (fun s=>Q .normal s) bu lo na hm mP pK (h _ fun _ h=>h)).mono fun e s q=>by cases e<;>exact q
section
variable {P : Program} {f : FuncId} {args : List AV} {H rH : List aA} {T rT : ar} {L : Lay} {w : World}
theorem bT.front (P:Program)(h:bT L (H++rH) (T++rT) w)(ho:bC H T):bT L H T w:=by
 let C:Cx:=⟨P,0,0,H.length,T.length,[]⟩
 let a:Act:={ tmps:=#[],defers:=[] }
 have hc:eF C ⟨[],H++rH,T++rT⟩ L w a:=⟨by simp[C],by simp[C],h,rfl,rfl,fun t=>.top _⟩
 have hw:uu C ⟨[],H++rH,T++rT⟩ ⟨[],H,T⟩:=⟨le_refl _,le_refl _,⟨rH,rfl⟩,⟨rT,rfl⟩,ho,fun t=>.inl rfl⟩
 exact(hw.mQ hc).mQ
theorem Ev.front {L0:Lay}{w0:World}{H0:List aA}{T0:ar}{nb tb:Nat}(h:Ev nb tb L0 H0.length T0 w0 L (H++rH).length (T++rT) w)(hn:nb≤H.length)(ht:tb≤T.length):Ev nb tb L0 H0.length T0 w0 L H.length T w:=by
 refine⟨hn,h.bN,fun t u z aZ hT=>?_,ht,h.m,h.rz,h.size,h.frame,fun b hb=>h.wr b ?_,h.os,h.tape,h.output,h.drawn,h.dr⟩
 ·obtain⟨u',h1,h2,h3⟩:=h.tok t u z aZ hT;exact⟨u',by rwa [getElem?_append_left (by omega)] at h1,h2,h3⟩
 ·rcases hb with⟨i,hi,e⟩|⟨t,u,z,h1,h2,e⟩
  ·exact .inl ⟨i,by simp;omega,e⟩
  ·exact .inr ⟨t,u,z,by rw[getElem?_append_left (List.getElem?_eq_some_iff.1 h1).1];exact h1,h2,e⟩
theorem aq.drop {r:AV}(h:aq P f args H T (Is r (H++rH) (T++rT)))(hb:Below H.length T.length (cY r)):aq P f args H T (Is (cY r) H T):=by
 refine⟨h.1,fun L w ca hc hl hr=>(h.2 L w ca hc hl hr).mono ?_⟩;rintro e w' ⟨r',H',T',L',cv,⟨e1,e2,e3⟩,rfl,cT,dI,dP⟩;subst e1;subst e2;subst e3;refine⟨_,H,T,L',cv,⟨rfl,rfl,rfl⟩,rfl,bT.front P cT hc.iG,?_,dP.front (le_refl _) (le_refl _)⟩;have:=(dI.cY).drop hb;simpa using this
theorem aq.cut {r0:AV}(H1:List aA)(T1:ar)(hl:H.length≤H1.length)(ht:T.length≤T1.length)(ho:bC H T→bC H1 T1)(hb:Below H1.length T1.length r0)
  (h:aq P f args H T (fun r H' T'=>(∃rH,H'=H1++rH)∧(∃rT,T'=T1++rT)∧(r=r0∨cY r=r0))):aq P f args H T (Is r0 H1 T1):=by
 refine⟨h.1,fun L w ca hc mO hr=>(h.2 L w ca hc mO hr).mono ?_⟩;rintro e w' ⟨r',H',T',L',cv,⟨⟨rH,e1⟩,⟨rT,e2⟩,e3⟩,rfl,cT,dI,dP⟩;subst e1;subst e2;refine⟨_,H1,T1,L',cv,⟨rfl,rfl,rfl⟩,rfl,bT.front P cT (ho hc.iG),?_,dP.front hl ht⟩;have qB:bc L' (H1++rH).length (T1++rT) w' r0 cv:=by
  rcases e3 with e3|e3
  ·rw[←e3];exact dI
  ·rw[←e3];exact dI.cY
 have:=qB.drop hb;simpa using this
theorem aq.cH {r0:AV}(h:aq P f args H T (fun r H' T'=>(∃rH,H'=H++rH)∧(∃rT,T'=T++rT)∧(r=r0∨cY r=r0)))(hb:Below H.length T.length r0):aq P f args H T (Is r0 H T):=
 aq.cut H T (le_refl _) (le_refl _) id hb h
theorem bT.Bi (h:bT L H T w){b k:Nat}(hb:b<w.heap.size)(hw:¬Wr L H.length T b)(hk:L.m b≤k):bT (L.bQ b k) H T w:=by
 have hm:∀x,L.m x≤(L.bQ b k).m x:=by
  intro x;show L.m x≤if x=b then k else L.m x
  split
  ·rename_i e;rw[e];exact hk
  ·exact le_refl _
 have kp:cS L H.length T w (L.bQ b k) H.length T w:=⟨le_refl _,fun _ _=>rfl,fun t u z h=>⟨u,h,le_refl _,fun _=>rfl⟩,hm,fun _ _ _=>rfl,rfl⟩
 refine⟨fun i x hx=>?_,h.inj,fun t u z ht=>?_,h.nH,h.jv,fun x hx=>?_,h.gl.keep hm (fun _ _ _=>rfl)⟩
 ·have hi:=(List.getElem?_eq_some_iff.1 hx).1;refine(h.box i x hx).stay kp hi rfl fun h5=>?_;show (if L.bN i=b then k else L.m (L.bN i))=0;rw[if_neg (fun e=>hw (.inl ⟨i,hi,e⟩))];exact h5
 ·obtain⟨h1,h2⟩:=h.tok t u z ht;refine⟨h1,fun hs=>?_⟩;obtain⟨c,e,fr,g1,g2,g3,g4⟩:=h2 hs;refine⟨c,e,fr,g1,g2,g3,?_⟩;show (if (L.dM t).b=b then k else L.m (L.dM t).b)≤_;rw[if_neg (fun e=>hw (.inr ⟨t,u,z,ht,hs,e⟩))];exact g4
 ·show (if x=b then k else L.m x)=0;rw[if_neg (by omega)];exact h.mz x hx
theorem aq.freeze {n:Nat}{vs:List AV}(h:aq P f args H T (Is (.bV H.length 0 n) (H++[.cells vs]) T))(hb:aJ H.length T.length vs):aq P f args H T (Is (.sl n vs .none) H T):=by
 refine⟨h.1,fun L w ca hc hl hr=>(h.2 L w ca hc hl hr).mono ?_⟩;rintro e w' ⟨r',H',T',L',cv,⟨e1,e2,e3⟩,rfl,cT,dI,dP⟩;have e3':=e3.symm;subst e1;subst e2;subst e3';obtain⟨cap,rfl,cg,aZ⟩:=dI.jb;have pS:=cT.box H.length (.cells vs) (by simp);have MT:=pS.lt;obtain⟨c,t,fr,g1,g2,g3,vO,g4,g5⟩:=pS;have nD:bT L' H T w':=bT.front (rT:=[]) P (by simpa using cT) hc.iG;have Et:¬Wr L' H.length T (L'.bN H.length):=by
  rintro (⟨i,hi,e⟩|⟨t,u,z,ht,hs,e⟩)
  ·have:=cT.inj i H.length (by simp;omega) (by simp) e;omega
  ·exact cT.jv t u z H.length ht hs (by simp) e
 have jg:=nD.Bi (k:=vs.length) MT Et (by omega);have e1:Ev H.length T.length L H.length T w L' H.length T w':=by
  have:=dP;have h2:=Ev.front (H:=H) (rH:=[.cells vs]) (T:=T) (rT:=[]) (L:=L') (w:=w') (L0:=L) (w0:=w) (H0:=H) (T0:=T) (nb:=H.length) (tb:=T.length) (by simpa using dP) (le_refl _) (le_refl _);exact h2
 have kp:cS L' H.length T w' (L'.bQ (L'.bN H.length) vs.length) H.length T w':=by
  refine⟨le_refl _,fun _ _=>rfl,fun t u z h=>⟨u,h,le_refl _,fun _=>rfl⟩,fun x=>?_,fun _ _ _=>rfl,rfl⟩;show L'.m x≤if x=L'.bN H.length then vs.length else L'.m x
  split
  ·rename_i e;rw[e,g5];exact Nat.zero_le _
  ·exact le_refl _
 refine⟨_,H,T,L'.bQ (L'.bN H.length) vs.length,_,⟨rfl,rfl,rfl⟩,rfl,jg,?_,?_⟩
 ·have Pu:cz L' H.length T w' vs c.toList:=by
   refine⟨by simpa using g3,fun j hj=>?_,fun j hj bR=>?_⟩
   ·have:=vO j (by simpa using hj);rw[Array.getElem_toList];exact this
   ·have:=(g4 j hj (by simpa using bR)).drop (hb _ (List.getElem_mem hj));rw[take_length] at this;rw[Array.getElem_toList];exact this
  refine bc.kV cg ?_ (Pu.keep kp) (fun j hj=>?_) trivial
  ·show 0+vs.length≤if L'.bN H.length=L'.bN H.length then vs.length else _
   rw[if_pos rfl];omega
  ·rw[fo g1];simp
 ·exact⟨e1.n,e1.bN,e1.tok,e1.t,fun b=>le_trans (e1.m b) (kp.m b),e1.rz,e1.size,e1.frame,e1.wr,e1.os,e1.tape,e1.output,e1.drawn,e1.dr⟩
theorem bT.own (h:bT L H T w)(u:Nat){z:Nat}(hz:0<z):bT (L.bh T.length ⟨0,0,0⟩) H (T++[(u,z)]) w:=
 h.my ⟨0,0,0⟩ u z (fun h=>by simp at h) ⟨hz,fun h=>by simp[Lay.bh] at h⟩
theorem Ev.own (u z:Nat):Ev H.length T.length L H.length T w (L.bh T.length ⟨0,0,0⟩) H.length (T++[(u,z)]) w:=
 (Ev.refl (le_refl _) (le_refl _)).my (fun h=>by simp at h)
theorem bc.own {n:Nat}{cs:List AV}{c:Value}{z:Nat}(h:bc L H.length T w (.sl n cs .full) c):bc (L.bh T.length ⟨0,0,0⟩) H.length (T++[(cs.length,z)]) w (.sl n cs (.own T.length)) c:=by
 have hk:=(h.cY).keep (Ev.own (H:=H) (T:=T) (L:=L) (w:=w) cs.length z).keeps;obtain⟨a,cap,rfl,cg,ht,_⟩:=h.eO;have tok:∀a',kg (L.bh T.length ⟨0,0,0⟩) (T++[(cs.length,z)]) (.own T.length) n cs.length a' cap:=fun a'=>⟨cs.length,z,by simp,le_refl _,fun _=>.inl ht⟩
 simp only[Am.cY] at hk;obtain⟨a',jO,e1,jT,_,IU⟩:=hk.eO
 cases e1
 rcases IU with⟨e2,e3⟩|⟨b,base,cv,e2,g1,g2,g3⟩
 ·subst e2;subst e3;exact .wD _ _ _ (tok _)
 ·subst e2;exact bc.kV jT g1 g2 g3 (tok _)
theorem aq.cD {a:AV}{as:List AV}{Q:AV→List aA→ar→Prop}(h:aq P f (cY a::as) H T Q):aq P f (a::as) H T Q:=by
 refine⟨h.1,fun L w ca hc hl hr=>h.2 L w ca hc hl (fun j hj bR=>?_)⟩
 cases j with
 |zero=>exact(hr 0 (by simp) bR).cY
 |succ j=>exact hr (j+1) hj bR
theorem aq.lD {a b:AV}{as:List AV}{Q:AV→List aA→ar→Prop}(h:aq P f (a::cY b::as) H T Q):aq P f (a::b::as) H T Q:=by
 refine⟨h.1,fun L w ca hc hl hr=>h.2 L w ca hc hl (fun j hj bR=>?_)⟩
 match j,hj with
 |0,_=>exact hr 0 (by simp) bR
 |1,_=>exact(hr 1 (by simp) bR).cY
 |j+2,hj=>exact hr (j+2) hj bR
theorem lF {C:Cx}{c:Code}{Q:Exit→St→Prop}{s:St}(t:Nat)(n z:Nat)(cs:List AV)(hz:0<z)(ht:bF s.e t=.sl n cs .full)(h:AW C c Q ⟨mo s.e t (.sl n cs (.own s.T.length)),s.H,s.T++[(cs.length,z)]⟩):AW C c Q s:=by
 intro L w a hc;have ev:=Ev.own (H:=s.H) (T:=s.T) (L:=L) (w:=w) cs.length z;refine wp_mono (h (L.bh s.T.length ⟨0,0,0⟩) w a ⟨hc.nb,by simp;have:=hc.tb;omega,hc.mQ.own _ hz,hc.size,hc.defers,fun t'=>?_⟩) fun _ _ _ k=>dh.step (s1:=⟨mo s.e t (.sl n cs (.own s.T.length)),s.H,s.T++[(cs.length,z)]⟩) (ev.mono hc.nb hc.tb) k
 by_cases h1:t=t'
 ·subst h1;rw[cF];have:=hc.env t;rw[ht] at this;exact this.own
 ·rw[bB _ _ _ _ h1];exact(hc.env t').keep ev.keeps
theorem aq.is {r r':AV}{H' H'':List aA}{T' Xp:ar}(h:aq P f args H T (Is r H' T'))(h1:r=r')(h2:H'=H'')(h3:T'=Xp):aq P f args H T (Is r' H'' Xp):=by subst h1;subst h2;subst h3;exact h
end
theorem Below.more {n n' t t':Nat}{v:AV}(h:Below n t v)(hn:n≤n')(ht:t≤t'):Below n' t' v:=by
 induction h with
 |top=>exact .top
 |bool b=>exact .bool b
 |int k x=>exact .int k x
 |str s=>exact .str s
 |fc=>exact .fc
 |ptr i o h=>exact .ptr i o (lt_of_lt_of_le h hn)
 |dK cs o h ih=>exact .dK cs o ih
 |sl m cs tg h hx ih=>exact .sl m cs tg ih (fun x e=>lt_of_lt_of_le (hx x e) ht)
 |bV i o m h=>exact .bV i o m (lt_of_lt_of_le h hn)
 |bJ i m cap h=>exact .bJ i m cap (lt_of_lt_of_le h hn)
 |aO i h=>exact .aO i (lt_of_lt_of_le h hn)
 |fn f a b h1 h2 Po Pn=>exact .fn f a b Po Pn
 |hZ=>exact .hZ
 |ly=>exact .ly
 |yc=>exact .yc
 |agg cs h ih=>exact .agg cs ih
 |df cs h ih=>exact .df cs ih
theorem bC.OQ {H:List aA}{T:ar}{b:aA}(h:bC H T)(hv:aJ (H.length+1) T.length b.yl):bC (H++[b]) T:=by
 intro i us hi v hm;rw[length_append,length_singleton];rcases lt_or_ge i H.length with aZ|jE
 ·rw[getElem?_append_left aZ] at hi;exact(h i us hi v hm).more (by omega) (le_refl _)
 ·have:i=H.length:=by have:=(List.getElem?_eq_some_iff.1 hi).1;simp at this;omega
  subst this;simp at hi;subst hi;exact hv v hm
theorem bC.snoc {H:List aA}{T:ar}{vs:List AV}(h:bC H T)(hv:aJ (H.length+1) T.length vs):bC (H++[.cells vs]) T:=h.OQ hv
theorem bC.Nr {H:List aA}{T:ar}{m n:Nat}{seen:List Nat}(h:bC H T):bC (H++[.kK m n seen]) T:=h.OQ (fun v hm=>by simp at hm)
theorem bC.fQ {H:List aA}{T T':ar}(h:bC H T)(ht:T.length≤T'.length):bC H T':=fun i us hi v hm=>(h i us hi v hm).more (le_refl _) ht
theorem bC.PS {H:List aA}{T:ar}{b:aA}{k:Nat}(h:bC H T)(hv:aJ H.length T.length b.yl):bC (H.set k b) T:=by
 intro i us hi v hm;rw[List.length_set]
 by_cases hk:k=i
 ·subst hk;have hl:=(List.getElem?_eq_some_iff.1 hi).1;rw[List.length_set] at hl;rw[List.getElem?_set_self hl] at hi
  injection hi with hi
  subst hi;exact hv v hm
 ·rw[List.getElem?_set_ne hk] at hi;exact h i us hi v hm
theorem bC.set {H:List aA}{T:ar}{vs:List AV}{k:Nat}(h:bC H T)(hv:aJ H.length T.length vs):bC (H.set k (.cells vs)) T:=h.PS hv
theorem bC.pX {H:List aA}{T:ar}{es:List (cN×AV)}{k:Nat}(h:bC H T)(hv:aJ H.length T.length (es.map (·.2))):bC (H.set k (.map es)) T:=h.PS hv
theorem bC.QC {H:List aA}{T:ar}{m n:Nat}{seen:List Nat}{k:Nat}(h:bC H T):bC (H.set k (.kK m n seen)) T:=h.PS (fun v hm=>by simp at hm)
theorem ag {C:Cx}{e e':Env}{H H':List aA}{T T':ar}(rH:List aA)(rT:ar)(hH:H=H'++rH)(hT:T=T'++rT)(hn:C.nb≤H'.length)(ht:C.tb≤T'.length)(ho:bC H' T')(he:bt H'.length T'.length e e') :
  uu C ⟨e,H,T⟩ ⟨e',H',T'⟩:=⟨hn,ht,⟨rH,hH⟩,⟨rT,hT⟩,ho,HX he⟩
section
variable {α : Type} (H l : List α) (k : Nat) (x : α)
@[simp] theorem JV:(H++l)[H.length+k]?=l[k]?:=by rw[List.getElem?_append_right (by omega)];congr 1;omega
@[simp] theorem E4:(H++l)[H.length]?=l[0]?:=JV H l 0
end
theorem aB {D:tK}{next:List bW→List pz→Env→Prop}{o:Oper}{aL:List bW}{sts:List pz}{e:Env}{g:FuncId}{as:List AV}{H:List aA}{T:ar}{v:AV}
  (h:aq D.C.P g as H T (Is v H T)) (hn:D.bu.contains aL.length=false) (k:v8 D next o aL sts e true v H T):JJ D next o aL sts e g as H T:=⟨v,H,T,h,fun _=>⟨rfl,rfl⟩,k⟩
theorem oZ {D:tK}{next:List bW→List pz→Env→Prop}{o:Oper}{aL:List bW}{sts:List pz}{e:Env}{g:FuncId}{as:List AV}{H H':List aA}{T T':ar}{v:AV}
  (h:aq D.C.P g as H T (Is v H' T')) (hn:D.bu.contains aL.length=true) (k:v8 D next o aL sts e true v H' T'):JJ D next o aL sts e g as H T:=⟨v,H',T',h,fun hc=>absurd (hn.symm.trans hc) (by decide),k⟩
@[simp] theorem R9 {D:tK} {aL:List bW} {sts:List pz} {e:Env}:eE D [] aL sts e=(match sts.getLast? with
  |some (H,T,_)=>D.K ⟨e,H,T⟩
  |none=>False):=rfl
@[simp] theorem Ra {D:tK} {o:Oper} {r:List Oper} {aL:List bW} {sts:List pz} {e:Env}:eE D (o::r) aL sts e=(match sts.getLast? with
  |some (H,T,_)=>match o.guard with
   |none=>kj D (eE D r) o aL sts e H T
   |some (j,want)=>match jN D.all j e with
    |some b=>if b=some want then kj D (eE D r) o aL sts e H T else v8 D (eE D r) o aL sts e false (.df []) H T
    |none=>False
  |none=>False):=rfl
attribute [simp] kj v8 ug MX MN dN
@[simp] theorem Mc {a b:Int} (h1:0≤a) (h2:0≤b):(a+b).toNat=a.toNat+b.toNat:=by omega
attribute [simp] List.getD_cons_zero List.getD_cons_succ List.getD_nil
attribute [simp] if_pos if_neg List.getElem?_cons_zero List.getElem?_cons_succ List.getElem?_nil
@[simp] theorem Vc {a b:Int} (h:0≤b):a.fdiv b=a / b:=Int.fdiv_eq_ediv_of_nonneg a h
@[simp] theorem WC:IntKind.u64.bits=64:=rfl
@[simp] theorem YR:IntKind.u8.bits=8:=rfl
@[simp] theorem WD:IntKind.i64.bits=64:=rfl
@[simp] theorem Q4:IntKind.u64.signed=false:=rfl
@[simp] theorem Q5:IntKind.i64.signed=true:=rfl
@[simp] theorem X9:IntKind.u64.max=18446744073709551615:=rfl
end Go.Am
