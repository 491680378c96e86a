/- One operation over abstract values, and that it is what the model does. Regions, calls and whole functions over abstract states. The rules as they are used in a walk, encodings of lists, and the rewriting rules of the walk. Regions that draw their order, over abstract states: the walk goes in the order of the text; what other orders may do is asked beside it. Regions that draw their order: every order comes to what the text's order comes to. Steps that only the abstract states take: what is new is forgotten, a finished row becomes immutable, an empty end gets a token.
  Conditions: as the theorems say. -/
import Derived.Test.YtneohapkboaplaaGreatAmA
import Derived.Laws.StructEq
set_option linter.all false
open Nat (le_refl lt_or_ge le_trans lt_of_lt_of_le)
open List (getElem?_eq_getElem getElem?_append_left getD_eq_getElem?_getD getElem_cons_zero getElem_map map_cons map_nil map_congr_left getElem?_toArray length_append length_singleton map_toArray mem_map take_length)
namespace Go.Am
open Go
section
variable {P : Program} {L : Lay} {H : List aG} {T : ay} {w : World}
theorem bN.Nc (h:bN L H T w)(s:List UInt8) :
  ∃L',bN L' (H++[.iter s 0]) T (w.alloc (.stringIter ⟨s.toArray⟩ 0))∧Ev H.length T.length L H.length T w L' (H++[aG.iter s 0]).length T (w.alloc (.stringIter ⟨s.toArray⟩ 0))∧L'.bL H.length=w.heap.size:=by
 have h1:=h.alloc (.stringIter ⟨s.toArray⟩ 0) 0;have e1:=Ev.alloc h (.stringIter ⟨s.toArray⟩ 0) 0;have BH:¬Wr (L.bJ w.heap.size 0) H.length T w.heap.size:=h.uu (le_refl _);refine⟨(L.bJ w.heap.size 0).dh H.length w.heap.size,h1.pw w.heap.size BH (.iter s 0) (fun hle=>by simp at hle;omega) ?_,Ev.pw (b:=w.heap.size) (aG.iter s 0) e1 (le_refl _),by simp[Lay.dh]⟩;show (w.alloc _).heap[((L.bJ w.heap.size 0).dh H.length w.heap.size).bL H.length]?=_;rw[show ((L.bJ w.heap.size 0).dh H.length w.heap.size).bL H.length=w.heap.size by simp[Lay.dh]];exact eG w _
def Mr (P:Program)(t:TypeId)(x:AV):Option AV:=
 match P.underlying t,x with
 |some .string,.str s=>some (.int .i64 s.length)
 |some (.slice _),.sl n _ _=>some (.int .i64 n)
 |some (.slice _),.cO _ _ n=>some (.int .i64 n)
 |some (.slice _),.dP _ n _=>some (.int .i64 n)
 |some (.array n _),_=>some (.int .i64 n)
 |_,_=>none
theorem MO {t ty:TypeId}{x r:AV}{c:Value}{N:Nat}(h:Mr P t x=some r)(hx:aZ L N T w x c):∃cv,(Builtin.len_ #[t] ty #[c]).run P w=.ok cv w∧aZ L N T w r cv:=by
 unfold Mr at h
 split at h
 ·rename_i s hu
  cases h
  rw[hx.gp];exact⟨.int .i64 s.length,by rw[run_len_string w t ty _ hu];rfl,.int _ _⟩
 ·rename_i e n cs tg hu
  cases h
  obtain⟨a,cap,rfl,_⟩:=hx.eS;exact⟨.int .i64 n,by simp[Builtin.len_,run_underlying hu,goInt],.int _ _⟩
 ·rename_i e i o n hu
  cases h
  obtain⟨cap,rfl,_⟩:=hx.iF;exact⟨.int .i64 n,by simp[Builtin.len_,run_underlying hu,goInt],.int _ _⟩
 ·rename_i e i n cap hu
  cases h
  obtain⟨rfl,_⟩:=hx.iH;exact⟨.int .i64 n,by simp[Builtin.len_,run_underlying hu,goInt],.int _ _⟩
 ·rename_i n e hu
  cases h
  exact⟨.int .i64 n,by simp[Builtin.len_,run_underlying hu,goInt],.int _ _⟩
 ·cases h
def FI (mx:Bool):AV→List AV→Option AV
 |acc,[]=>some acc
 |.int k x,.int _ y::r=>FI mx (.int k (if mx then (if y>x then y else x) else (if y<x then y else x))) r
 |_,_=>none
def SQ (mx:Bool):List AV→Option AV
 |[]=>none
 |x::r=>FI mx x r
theorem JF {N:Nat}(mx:Bool):∀(l:List AV)(cs:List Value)(acc r:AV)(ca:Value),FI mx acc l=some r→aZ L N T w acc ca→cs.length=l.length→(∀(j:Nat)(h:j<l.length)(h':j<cs.length),aZ L N T w (l[j]'h) (cs[j]'h'))→
  ∃cv,(cs.foldlM (if mx then Builtin.max2 else Builtin.min2) ca).run P w=.ok cv w∧aZ L N T w r cv:=by
 intro l
 induction l with
 |nil=>
  intro cs acc r ca h ha hl _;have:cs=[]:=List.eq_nil_of_length_eq_zero hl;subst this;simp only[FI,Option.some.injEq] at h;subst h;exact⟨ca,rfl,ha⟩
 |cons v l ih=>
  intro cs acc r ca h ha hl hr
  match cs,hl,hr with
  |c::cs,hl,hr=>
   have h0:=hr 0 (by simp) (by simp);simp only[getElem_cons_zero] at h0
   cases acc<;>cases v<;>simp only[FI,reduceCtorEq] at h
   rw[ha.dE,h0.dE];obtain⟨cv,g1,g2⟩:=ih cs _ r _ h (.int _ _) (by simpa using hl) (fun j hj bK=>by have:=hr (j+1) (by simpa using hj) (by simpa using bK);simpa using this);refine⟨cv,?_,g2⟩;rw[List.foldlM_cons,←g1]
   cases mx<;>rfl
theorem Ee {N:Nat}{ty:TypeId}{ts:Array TypeId}(mx:Bool)(l:List AV)(cs:List Value)(r:AV)(h:SQ mx l=some r)(hl:cs.length=l.length)(hr:∀(j:Nat)(h:j<l.length)(h':j<cs.length),aZ L N T w (l[j]'h) (cs[j]'h')) :
  ∃cv,((if mx then Builtin.max_ else Builtin.min_) ts ty cs.toArray).run P w=.ok cv w∧aZ L N T w r cv:=by
 match l,cs,hl,hr,h with
 |v::l,c::cs,hl,hr,h=>
  have h0:=hr 0 (by simp) (by simp);simp only[getElem_cons_zero] at h0;obtain⟨cv,g1,g2⟩:=JF (P:=P) mx l cs v r c h h0 (by simpa using hl) (fun j hj bK=>by have:=hr (j+1) (by simpa using hj) (by simpa using bK);simpa using this);refine⟨cv,?_,g2⟩;rw[←g1]
  cases mx<;>rfl
 |[],[],_,_,h=>simp[SQ] at h
def nJ (P:Program):List Field→List AV→List AV→Option Bool
 |[],_,_=>some true
 |f::fs,xs,ys=>
  if f.name = "_" then none else
  match P.underlying f.type,xs[f.offset]?,ys[f.offset]? with
  |some (.int _),some (.int k a),some (.int k' b)=>if k=k' then (nJ P fs xs ys).map ((a==b)&&·) else none
  |some .string,some (.str a),some (.str b)=>(nJ P fs xs ys).map ((a==b)&&·)
  |some .bool,some (.bool a),some (.bool b)=>(nJ P fs xs ys).map ((a==b)&&·)
  |_,_,_=>none
def nP (P:Program)(t:TypeId)(x y:AV):Option Bool:=
 match x,y with
 |.agg xs,.agg ys=>if P.stoodInHeld t=false∧P.eqGuardType P.depth t=false then
   match P.underlying t with
   |some (.struct fs)=>nJ P fs.toList xs ys
   |_=>none
  else none
 |_,_=>none
def D6 (P:Program)(op:BinOp)(t:TypeId)(x y:AV):Option AV:=
 match op with
 |.eql=>(nP P t x y).map .bool
 |.neq=>(nP P t x y).map fun b=>.bool (!b)
 |_=>none
theorem bW.at {N:Nat}{xs:List AV}{c:List Value}{i:Nat}{v:AV}(h:bW L N T w xs c)(hi:xs[i]?=some v):∃x,c[i]?=some x∧aZ L N T w v x:=by
 obtain⟨bh,rfl⟩:=List.getElem?_eq_some_iff.1 hi;have oP:i<c.length:=by rw[h.1];exact bh
 exact⟨c[i],getElem?_eq_getElem oP,h.2.2 i bh oP⟩
theorem CZ {N:Nat}(d:Nat){xs ys:List AV}{cx cy:Array Value}(hx:bW L N T w xs cx.toList)(hy:bW L N T w ys cy.toList):∀(fs:List Field)(b:Bool),nJ P fs xs ys=some b→(Op.eqFields (d+1) cx cy fs).run P w=.ok b w:=by
 intro fs
 induction fs with
 |nil=>intro b h;cases h;rfl
 |cons f fs ih=>
  intro b h;unfold nJ at h
  split at h
  ·cases h
  ·rename_i hn;have fin:∀(v u:Value)(r:Bool),iv P f.type=some false→cx.toList[f.offset]?=some v→cy.toList[f.offset]?=some u→(Op.equalIn (d+1) f.type v u).run P w=.ok r w→
     (nJ P fs xs ys).map (r&&·)=some b→(Op.eqFields (d+1) cx cy (f::fs)).run P w=.ok b w:=by
    intro v u r ha hv hu he hm;obtain⟨b',r8,rfl⟩:=Option.map_eq_some_iff.1 hm;have hv':cx[f.offset]?=some v:=by simpa using hv
    have WX:cy[f.offset]?=some u:=by simpa using hu
    have p1:(part f.type cx f.offset).run P w=.ok v w:=by
     simp only[part,Sem.run_bind,jN ha,Result.andThen_ok,Bool.false_eq_true,if_false,hv'];rfl
    have p2:(part f.type cy f.offset).run P w=.ok u w:=by
     simp only[part,Sem.run_bind,jN ha,Result.andThen_ok,Bool.false_eq_true,if_false,WX];rfl
    simp only[Op.eqFields,if_pos hn,Sem.run_bind,p1,p2,Result.andThen_ok,he]
    cases r
    ·simp
    ·simpa using ih b' r8
   split at h
   ·rename_i hu h1 h2
    split at h
    ·rename_i hk;subst hk;obtain⟨v,v1,v2⟩:=hx.at h1;obtain⟨u,u1,u2⟩:=hy.at h2;rw[v2.dE] at v1;rw[u2.dE] at u1;exact fin _ _ _ (by simp[iv,hu]) v1 u1 (run_equalIn_int w d _ _ _ _ _ hu) h
    ·cases h
   ·rename_i hu h1 h2;obtain⟨v,v1,v2⟩:=hx.at h1;obtain⟨u,u1,u2⟩:=hy.at h2;rw[v2.gp] at v1;rw[u2.gp] at u1;refine fin _ _ _ (by simp[iv,hu]) v1 u1 ?_ h;rw[run_equalIn_string w d _ _ _ hu,toList_mk,toList_mk]
   ·rename_i hu h1 h2;obtain⟨v,v1,v2⟩:=hx.at h1;obtain⟨u,u1,u2⟩:=hy.at h2;rw[v2.ig] at v1;rw[u2.ig] at u1;exact fin _ _ _ (by simp[iv,hu]) v1 u1 (run_equalIn_bool' w d _ _ _ hu) h
   ·cases h
theorem Gq {N:Nat}{op:BinOp}{t:TypeId}{x y r:AV}{cx cy:Value}(h:D6 P op t x y=some r)(hx:aZ L N T w x cx)(hy:aZ L N T w y cy)(ox oy:Operand) :
  ∃cv,(eqGuard op t ox oy cx cy >>= fun _=>binOp op t cx cy).run P w=.ok cv w∧∀(L:Lay)(N:Nat)(T:ay)(w':World),aZ L N T w' r cv:=by
 have key:∀b,nP P t x y=some b→∃xs ys,cx=.agg xs∧cy=.agg ys∧P.eqGuardType P.depth t=false∧(Op.equalIn 10000 t (.agg xs) (.agg ys)).run P w=.ok b w:=by
  intro b hb;unfold nP at hb
  split at hb
  ·rename_i xs ys
   split at hb
   ·rename_i hg
    split at hb
    ·rename_i fs hu
     cases hx with
     |agg _ cxa a1 a2 a3=>
      cases hy with
      |agg _ cya b1 b2 b3=>
       refine⟨cxa,cya,rfl,rfl,hg.2,?_⟩;have hf:P.fieldsOf t=fs:=by simp[Program.fieldsOf,hu]
       rw[run_equalIn_struct w 9999 t cxa cya (by rw[hf];exact hu) hg.1,hf];exact CZ 9998 (bW.xG (.agg _ _ a1 a2 a3)) (bW.xG (.agg _ _ b1 b2 b3)) _ _ hb
    ·cases hb
   ·cases hb
  ·cases hb
 unfold D6 at h
 split at h
 ·obtain⟨b,hb,rfl⟩:=Option.map_eq_some_iff.1 h;obtain⟨xs,ys,rfl,rfl,hg,hr⟩:=key b hb;refine⟨.bool b,?_,fun _ _ _ _=>.bool _⟩;simp only[Sem.run_bind,run_eqGuard_agg w _ _ _ _ _ _ hg,Result.andThen_ok,run_eql_struct,hr]
 ·obtain⟨b,hb,rfl⟩:=Option.map_eq_some_iff.1 h;obtain⟨xs,ys,rfl,rfl,hg,hr⟩:=key b hb;refine⟨.bool (!b),?_,fun _ _ _ _=>.bool _⟩;simp only[Sem.run_bind,run_eqGuard_agg w _ _ _ _ _ _ hg,Result.andThen_ok,run_neq_struct,hr]
 ·cases h
def xU:Operand→Operand→Bool
 |.tmp a,.tmp b=>a==b
 |.const (.int k a),.const (.int k' b)=>k==k'&&a==b
 |_,_=>false
abbrev Res:=Option (AV×List aG×ay)
def uF (P:Program)(H:List aG)(t:TypeId)(x:AV):Option (List aG):=
 match P.underlying t,x with
 |some (.slice e),.cO i o n=>if n=0 then some H else match H[i]?,aX P e with
  |some (.cells vs),some zs=>if 0<zs.length∧o+n*zs.length≤vs.length then some (H.set i (.cells (setMany vs o (gj zs (n*zs.length))))) else none
  |_,_=>none
 |_,_=>none
theorem Gm {t ty:TypeId}{x:AV}{c:Value}{H':List aG}(hc:bN L H T w)(h:uF P H t x=some H')(hx:aZ L H.length T w x c) :
  ∃cv w' L',(Builtin.clear_ #[t] ty #[c]).run P w=.ok cv w'∧bN L' H' T w'∧aZ L' H'.length T w' .top cv∧Ev H.length T.length L H.length T w L' H'.length T w':=by
 unfold uF at h
 split at h
 ·rename_i e i o n hu;obtain⟨cap,rfl,bV,bh⟩:=hx.iF
  split at h
  ·rename_i hn
   cases h
   subst hn;exact⟨.tuple #[],w,L,by simp[Builtin.clear_,run_underlying hu],hc,.top _,Ev.refl (le_refl _) (le_refl _)⟩
  ·rename_i hn
   split at h
   ·rename_i vs zs hi hz
    split at h
    ·rename_i hle
     cases h
     obtain⟨inf,z,h1,h2,h3,h4⟩:=dZ (L:=L) (T:=T) (w:=w) (N:=H.length) hz;have gN:z.cells.size=zs.length:=by have:=h3.1;simpa using this
     have hr:=oI (n:=n*zs.length) h3 (.inl hle.1);have hzc:(Builtin.zeroCells z.cells n).toList=(madeCells z.cells (n*zs.length)).toList:=by rw[←gN];rfl
     rw[←hzc] at hr;have hlen:(gj zs (n*zs.length)).length=n*zs.length:=by simp[gj]
     obtain⟨w',dA,cQ,dU⟩:=ln (P:=P) i o (gj zs (n*zs.length)) (Builtin.zeroCells z.cells n).toList 0 H w vs hc hr hi (by rw[hlen];omega);obtain⟨m,rfl⟩:∃m,n=m+1:=⟨n-1,by omega⟩
     refine⟨.tuple #[],w',L,?_,cQ,.top _,dU⟩;simp[Builtin.clear_,run_underlying hu,iQ h1 h2,dA]
    ·cases h
   ·cases h
 ·cases h
def qG (P:Program)(b:Builtin)(ts:Array TypeId)(args:List AV)(H:List aG)(T:ay):Res:=
 match b,ts.toList,args with
 |.len,[t],[x]=>(Mr P t x).map (·,H,T)
 |.append,[t,t2],[s,x]=>match s with
  |.cO i o n=>(D7 P H t t2 (.cO i o n) x).map (·,H,T)
  |s=>(qp P H T t t2 s x).map fun(v,T')=>(v,H,T')
 |.max,_,l=>(SQ true l).map (·,H,T)
 |.min,_,l=>(SQ false l).map (·,H,T)
 |.clear,[t],[x]=>(uF P H t x).map fun H'=>(.top,H',T)
 |_,_,_=>none
def D4 (P:Program)(op:BinOp)(t:TypeId)(y:Operand)(ax:AV):Option AV:=
 match y with
 |.const .nilIface=>match P.underlying t,ax,op with
  |some (.interface _),.kV,.eql=>some (.bool true)
  |some (.interface _),.kV,.neq=>some (.bool false)
  |some (.interface _),.xl,.eql=>some (.bool false)
  |some (.interface _),.xl,.neq=>some (.bool true)
  |_,_,_=>none
 |_=>none
theorem Gp {op:BinOp}{t:TypeId}{x y:Operand}{ax r:AV}{a:Act}{N:Nat}(h:D4 P op t y ax=some r)(hx:aZ L N T w ax (a.eval x)) :
  ∃cv,(eqGuard op t x y (a.eval x) (a.eval y) >>= fun _=>binOp op t (a.eval x) (a.eval y)).run P w=.ok cv w∧∀(L:Lay)(N:Nat)(T:ay)(w':World),aZ L N T w' r cv:=by
 have g1:∀op,(eqGuard op t x (.const .nilIface) .nilIface .nilIface).run P w=.ok () w:=fun op=>by
  unfold eqGuard
  cases op<;>simp
 have g2:∀op t' v,(eqGuard op t x (.const .nilIface) (.iface t' v) .nilIface).run P w=.ok () w:=fun op t' v=>by
  unfold eqGuard
  cases op<;>simp
 unfold D4 at h
 split at h
 ·have e2:a.eval (.const .nilIface)=.nilIface:=rfl;rw[e2]
  split at h
  ·rename_i ms hu
   cases h
   rw[hx.zW,Sem.run_bind,g1,Result.andThen_ok];exact⟨_,jE t _ _ true .eql (.inl rfl) rfl rfl (fun d=>by simp only[Op.equalIn,Sem.run_bind,run_underlying hu,Result.andThen_ok];rfl),fun _ _ _ _=>.bool _⟩
  ·rename_i ms hu
   cases h
   rw[hx.zW,Sem.run_bind,g1,Result.andThen_ok];exact⟨_,jE t _ _ true .neq (.inr rfl) rfl rfl (fun d=>by simp only[Op.equalIn,Sem.run_bind,run_underlying hu,Result.andThen_ok];rfl),fun _ _ _ _=>.bool _⟩
  ·rename_i ms hu
   cases h
   obtain⟨t',v,e⟩:=hx.Ex;rw[e,Sem.run_bind,g2,Result.andThen_ok];exact⟨_,jE t _ _ false .eql (.inl rfl) rfl rfl (fun d=>by simp only[Op.equalIn,Sem.run_bind,run_underlying hu,Result.andThen_ok];rfl),fun _ _ _ _=>.bool _⟩
  ·rename_i ms hu
   cases h
   obtain⟨t',v,e⟩:=hx.Ex;rw[e,Sem.run_bind,g2,Result.andThen_ok];exact⟨_,jE t _ _ false .neq (.inr rfl) rfl rfl (fun d=>by simp only[Op.equalIn,Sem.run_bind,run_underlying hu,Result.andThen_ok];rfl),fun _ _ _ _=>.bool _⟩
  ·cases h
 ·cases h
def Fm (P:Program)(o:Oper)(e:Env)(H:List aG)(T:ay):Res:=
 match o.op with
 |.move x=>some (bQ e x,H,T)
 |.assign x=>some (bQ e x,H,T)
 |.pick c a b=>match bQ e c with
  |.bool t=>some (if t then bQ e a else bQ e b,H,T)
  |_=>none
 |.alloc t=>(aX P t).map fun zs=>(.ptr H.length 0,H++[.cells zs],T)
 |.box _ x=>(Po (bQ e x)).map fun xs=>(.ptr H.length 0,H++[.cells xs],T)
 |.build t ps=>(xS P t (ps.toList.map fun(x:Nat×Operand)=>(x.1,bQ e x.2))).map (·,H,T)
 |.buildSlice t n ps=>(kR P t n (ps.toList.map fun(x:Nat×Operand)=>(x.1,bQ e x.2))).map (·,H,T)
 |.load t a=>match Iy H (bQ e a) with
  |some (vs,o)=>(oZ P t vs o).map (·,H,T)
  |none=>none
 |.store t a x=>match bQ e a,Po (bQ e x) with
  |.ptr i o,some xs=>match H[i]? with
   |some (.cells vs)=>if xs.length=P.cellsOf t∧o+xs.length≤vs.length∧(P.underlying t).isSome=true then some (.top,H.set i (.cells (setMany vs o xs)),T) else none
   |_=>none
  |_,_=>none
 |.nilCheck x=>match bQ e x with
  |.ptr i o=>some (.ptr i o,H,T)
  |.dI cs o=>some (.dI cs o,H,T)
  |.fn f a b=>some (.fn f a b,H,T)
  |_=>none
 |.binOp op t x y _=>match D4 P op t y (bQ e x) with
  |some r=>some (r,H,T)
  |none=>if ry P t (bQ e x)=true then (Mt op (bQ e x) (bQ e y)).map (·,H,T) else (D6 P op t (bQ e x) (bQ e y)).map (·,H,T)
 |.unOp u _ x=>(Xr u (bQ e x)).map (·,H,T)
 |.convert s d x=>match P.underlying s,P.underlying d,bQ e x with
  |some .string,some (.slice el),.str b=>match P.underlying el with
   |some (.int .u8)=>some (.sl b.length (bu b) .none,H,T)
   |_=>none
  |_,_,_=>(D5 P H s d (bQ e x)).map (·,H,T)
 |.makeFunc (.func f) first eK=>some (.fn f (first.toList.map (bQ e)) (eK.toList.map (bQ e)),H,T)
 |.makeSlice t l c=>match P.underlying t,bQ e l,bQ e c with
  |some (.slice el),.int _ a,.int _ b=>match aX P el with
   |some zs=>
    if 0<zs.length∧0≤b∧b.toNat*P.bytesOf el≤281474976710656∧b.toNat≤9223372036854775807∧0<P.cellsOf el then
     if xU l c=true then some (.dP H.length b.toNat b.toNat,H++[.cells (gj zs (b.toNat*P.cellsOf el))],T)
     else if a=0 then some (.sl 0 [] (.own T.length),H,T++[(0,P.cellsOf el)]) else none
    else none
   |none=>none
  |_,_,_=>none
 |.slice t x lo hi mx=>(xO P t (bQ e x) (lo.map (bQ e)) (hi.map (bQ e)) (mx.map (bQ e))).map (·,H,T)
 |.fieldAddr t x f=>(mC P t (bQ e x) f).map (·,H,T)
 |.field t x f=>(xR P t (bQ e x) f).map (·,H,T)
 |.indexAddr t x i=>(mB P t (bQ e x) (bQ e i)).map (·,H,T)
 |.index t x i=>(xP P t (bQ e x) (bQ e i)).map (·,H,T)
 |.extract x i=>match bQ e x with
  |.cJ vs=>if i<vs.length then some (vs.getD i .top,H,T) else none
  |_=>none
 |.range t x=>match bQ e x with
  |.str s=>match P.underlying t with
   |some .string=>some (.ptr H.length 0,H++[.iter s 0],T)
   |_=>none
  |.aV m=>match sR P t,H[m]? with
   |some _,some (.map es)=>some (.ptr H.length 0,H++[.kq m es.length []],T)
   |_,_=>none
  |_=>none
 |.makeMap _ none=>some (.aV H.length,H++[.map []],T)
 |.lookup t x i ok=>match bQ e x,sR P t,DX (bQ e i) with
  |.aV m,some (kt,el),some k=>match H[m]?,nL P el with
   |some (.map es),some z=>if kM P kt k=true∧dw P kt es=true then some (ir es k z ok,H,T) else none
   |_,_=>none
  |_,_,_=>none
 |.mapUpdate t m k x=>match bQ e m,sR P t,DX (bQ e k) with
  |.aV i,some (kt,_),some kk=>match H[i]? with
   |some (.map es)=>if kM P kt kk=true∧dw P kt es=true then some (.top,H.set i (.map (jU es kk (bQ e x))),T) else none
   |_=>none
  |_,_,_=>none
 |.entry x=>match bQ e x with
  |.ptr i 0=>match H[i]? with
   |some (.kq m n seen)=>match H[m]?,seen.getLast? with
    |some (.map es),some j=>if n=es.length then (es[j]?).map fun kv=>(.cJ [kv.1.av,kv.2],H,T) else none
    |_,_=>none
   |_=>none
  |_=>none
 |.next x true=>match bQ e x with
  |.ptr i 0=>match H[i]? with
   |some (.iter s pos)=>if pos<s.length then some (.cJ [.bool true,.int .i64 pos,.int .i32 (Utf8.decode ⟨s.toArray⟩ pos).1],H.set i (.iter s (pos+(Utf8.decode ⟨s.toArray⟩ pos).2)),T)
    else some (.cJ [.bool false],H,T)
   |_=>none
  |_=>none
 |.call { callee:=.builtin b,args,argTypes }=>qG P b argTypes (args.toList.map (bQ e)) H T
 |_=>none
theorem Good.of {x:Sem Value}{y:Sem Next}{r:AV}{H':List aG}{T':ay}(hy:y=(do pure (Next.value (←x))))(h:∃cv w' L',x.run P w=.ok cv w'∧bN L' H' T' w'∧aZ L' H'.length T' w' r cv∧Ev H.length T.length L H.length T w L' H'.length T' w') :
  Good P y H T L w r H' T':=by
 obtain⟨cv,w',L',h1,h2,h3,h4⟩:=h;exact⟨.value cv,cv,w',L',by rw[hy];simp only[Sem.run_bind,h1,Result.andThen_ok];rfl,.inl rfl,h2,h3,h4⟩
theorem Good.same {x:Sem Value}{y:Sem Next}{r:AV}(hy:y=(do pure (Next.value (←x))))(hc:bN L H T w)(h:∃cv,x.run P w=.ok cv w∧aZ L H.length T w r cv):Good P y H T L w r H T:=by
 obtain⟨cv,h1,h2⟩:=h;exact Good.of hy ⟨cv,w,L,h1,hc,h2,Ev.refl (le_refl _) (le_refl _)⟩
theorem rK {a:Act}{e:Env}(he:eV L H.length T w e a)(ps:Array (Nat×Operand)) :
  (ps.map fun(x:Nat×Operand)=>match x with|(i,x)=>(i,a.eval x)).size=(ps.toList.map fun(x:Nat×Operand)=>(x.1,bQ e x.2)).length∧
  ∀(j:Nat) (h:j<(ps.toList.map fun(x:Nat×Operand)=>(x.1,bQ e x.2)).length) (h':j<(ps.map fun(x:Nat×Operand)=>match x with|(i,x)=>(i,a.eval x)).toList.length),
   ((ps.toList.map fun(x:Nat×Operand)=>(x.1,bQ e x.2))[j]'h).1=((ps.map fun(x:Nat×Operand)=>match x with|(i,x)=>(i,a.eval x)).toList[j]'h').1∧
   aZ L H.length T w ((ps.toList.map fun(x:Nat×Operand)=>(x.1,bQ e x.2))[j]'h).2 ((ps.map fun(x:Nat×Operand)=>match x with|(i,x)=>(i,a.eval x)).toList[j]'h').2:=by
 refine⟨by simp,fun j h h'=>?_⟩;simp only[getElem_map,Array.toList_map];exact⟨by first|rfl|trivial,he.bQ _⟩
theorem yk {b:Builtin}{ts:List TypeId}{ty:TypeId}{A:List AV}{B:List Value}{cst:Array Bool}{r:AV}{H':List aG}{T':ay}(hc:bN L H T w)(h:qG P b ts.toArray A H T=some (r,H',T'))
  (hl:B.length=A.length) (hr:∀(j:Nat)(h:j<A.length)(h':j<B.length),aZ L H.length T w (A[j]'h) (B[j]'h')):Good P (builtin b ts.toArray ty cst B.toArray) H T L w r H' T':=by
 have one:∀{x:Option AV} {y:AV×List aG×ay},x.map (fun v=>(v,H,T))=some y→∃v,x=some v∧y=(v,H,T):=by
  intro x y hx
  cases x with
  |none=>cases hx
  |some v=>exact⟨v,rfl,by cases hx;rfl⟩
 unfold qG at h
 split at h
 ·rename_i t x BS;have rf:ts=[t]:=BS;subst rf;obtain⟨v,hv,e1⟩:=one h
  cases e1
  match B,hl,hr with
  |[c],_,hr=>
   have h0:=hr 0 (by simp) (by simp);simp only[getElem_cons_zero] at h0;exact Good.same (x:=Builtin.len_ #[t] ty #[c]) rfl hc (MO hv h0)
 ·rename_i t t2 s x BS;have rf:ts=[t,t2]:=BS;subst rf
  split at h
  ·rename_i i o n;obtain⟨v,hv,e1⟩:=one h
   cases e1
   match B,hl,hr with
   |[c,d],_,hr=>
    have h0:=hr 0 (by simp) (by simp);have h1:=hr 1 (by simp) (by simp);simp only[getElem_cons_zero,List.getElem_cons_succ] at h0 h1;exact Good.same (x:=Builtin.append_ #[t,t2] ty #[c,d]) rfl hc (JD hc hv h0 h1)
  ·cases ha:qp P H T t t2 s x with
   |none=>rw[ha] at h;cases h
   |some y=>
    obtain⟨v,Tn⟩:=y;rw[ha] at h
    cases h
    match B,hl,hr with
    |[c,d],_,hr=>
     have h0:=hr 0 (by simp) (by simp);have h1:=hr 1 (by simp) (by simp);simp only[getElem_cons_zero,List.getElem_cons_succ] at h0 h1;exact Good.of (x:=Builtin.append_ #[t,t2] ty #[c,d]) rfl (C1 hc ha h0 h1)
 ·obtain⟨v,hv,e1⟩:=one h
  cases e1
  exact Good.same (x:=Builtin.max_ ts.toArray ty B.toArray) rfl hc (Ee (P:=P) (ty:=ty) (ts:=ts.toArray) true _ B r hv hl hr)
 ·obtain⟨v,hv,e1⟩:=one h
  cases e1
  exact Good.same (x:=Builtin.min_ ts.toArray ty B.toArray) rfl hc (Ee (P:=P) (ty:=ty) (ts:=ts.toArray) false _ B r hv hl hr)
 ·rename_i t x BS;have rf:ts=[t]:=BS;subst rf
  cases ha:uF P H t x with
  |none=>rw[ha] at h;cases h
  |some Hn=>
   rw[ha] at h
   cases h
   match B,hl,hr with
   |[c],_,hr=>
    have h0:=hr 0 (by simp) (by simp);simp only[getElem_cons_zero] at h0;exact Good.of (x:=Builtin.clear_ #[t] ty #[c]) rfl (Gm hc ha h0)
 ·cases h
theorem xh {o:Oper}{e:Env}{a:Act}{r:AV}{H':List aG}{T':ay}(hc:bN L H T w)(he:eV L H.length T w e a)(h:Fm P o e H T=some (r,H',T')):Good P (execOp a.eval o) H T L w r H' T':=by
 obtain⟨dst,op,type,pos,after,guard⟩:=o;have one:∀{x:Option AV} {y:AV×List aG×ay},x.map (fun v=>(v,H,T))=some y→∃v,x=some v∧y=(v,H,T):=by
  intro x y hx
  cases x with
  |none=>cases hx
  |some v=>exact⟨v,rfl,by cases hx;rfl⟩
 cases op<;>simp only[Fm,reduceCtorEq] at h
 case move x=>cases h;exact Good.now hc rfl (he.bQ x)
 case assign x=>cases h;exact Good.now hc rfl (he.bQ x)
 case pick c x y=>
  split at h
  ·rename_i t ht
   cases h
   have hb:=he.bQ c;rw[ht] at hb;refine Good.same (x:=do pure (if←asBool (a.eval c) then a.eval x else a.eval y)) (by simp[execOp]) hc ⟨if t then a.eval x else a.eval y,by rw[hb.ig];rfl,?_⟩
   cases t
   ·exact he.bQ y
   ·exact he.bQ x
  ·cases h
 case alloc t=>
  cases hz:aX P t with
  |none=>rw[hz] at h;cases h
  |some zs=>
   rw[hz] at h
   cases h
   obtain⟨i,z,hi,tj,hr,_⟩:=dZ (L:=L) (N:=H.length) (T:=T) (w:=w) hz;obtain⟨L',h1,h2,h3⟩:=hc.pr z.cells t hr;refine Good.of (x:=Instr.alloc t true (.tuple #[])) rfl ⟨.pointer (some ⟨w.heap.size,0,none⟩),_,L',?_,h1,?_,h2⟩
   ·simp only[Instr.alloc,Sem.run_bind,iQ hi tj,Result.andThen_ok];rfl
   ·rw[←h3];exact .ptr _ _ (by simp)
 case box t x=>
  cases hz:Po (bQ e x) with
  |none=>rw[hz] at h;cases h
  |some xs=>
   rw[hz] at h
   cases h
   have hr:=yd hz (he.bQ x);obtain⟨L',h1,h2,h3⟩:=hc.pr (a.eval x).cells t hr;refine Good.of (x:=Instr.box t (a.eval x)) rfl ⟨.pointer (some ⟨w.heap.size,0,none⟩),_,L',?_,h1,?_,h2⟩
   ·rfl
   ·rw[←h3];exact .ptr _ _ (by simp)
 case build t ps=>
  obtain⟨v,hv,e1⟩:=one h
  cases e1
  obtain⟨g1,g2⟩:=rK he ps;exact Good.same rfl hc (run_build hv g1 g2)
 case buildSlice t n ps=>
  obtain⟨v,hv,e1⟩:=one h
  cases e1
  obtain⟨g1,g2⟩:=rK he ps;exact Good.of rfl (vp hc hv g1 g2)
 case load t x=>
  split at h
  ·rename_i vs o tW;obtain⟨v,hv,e1⟩:=one h
   cases e1
   obtain⟨b,base,cv,e2,hr,jY⟩:=vg hc (he.bQ x) tW;obtain⟨c,h1,h2⟩:=sv (P:=P) hr jY hv;refine Good.same (x:=Instr.loadAt t (a.eval x)) rfl hc ⟨c,?_,h2⟩;rw[e2];exact h1
  ·cases h
 case store t x y=>
  split at h
  ·rename_i i o xs hx hy
   split at h
   ·rename_i vs hi
    split at h
    ·rename_i hb
     cases h
     obtain⟨hl,hle,hu⟩:=hb;obtain⟨d,hd⟩:=Option.isSome_iff_exists.1 hu;have hp:=he.bQ x;rw[hx] at hp;obtain⟨e2,bh⟩:=hp.mo;have hr:=yd hy (he.bQ y);obtain⟨w',h1,h2,h3⟩:=ln (P:=P) (L:=L) (T:=T) i o xs (a.eval y).cells.toList 0 H w vs hc hr hi (by simpa using hle);have gN:(a.eval y).cells.size=P.cellsOf t:=by have:=hr.1;simp at this;omega
     refine⟨.skip,undef,w',L,?_,.inr ⟨rfl,rfl⟩,h2,.top _,h3⟩;have:(Instr.storeAt t (a.eval x) (a.eval y)).run P w=.ok () w':=by
      rw[e2];simp only[Instr.storeAt,Instr.sureAddr,pure_bind,storeVar,Sem.run_bind,cz hd,Result.andThen_ok,gN,ne_eq,not_true_eq_false,if_false];exact h1
     simp only[execOp,Sem.run_bind,this,Result.andThen_ok];rfl
    ·cases h
   ·cases h
  ·cases h
 case nilCheck x=>
  have hp:=he.bQ x
  split at h
  ·rename_i i o hx
   cases h
   rw[hx] at hp;obtain⟨e2,bh⟩:=hp.mo;refine Good.now hc ?_ (e2▸hp);simp only[execOp,e2];rfl
  ·rename_i cs o hx
   cases h
   rw[hx] at hp;generalize Sh:a.eval x=cx at hp
   cases hp with
   |dI _ _ b base f hm NX h1 hr=>
    refine Good.now hc ?_ (.dI cs o b base f hm NX h1 hr);simp only[execOp,Sh];rfl
  ·rename_i f fa ca hx
   cases h
   rw[hx] at hp;generalize Sh:a.eval x=cx at hp
   cases hp with
   |fn _ _ _ fv cv h1 h2 HU o4=>
    refine Good.now hc ?_ (.fn f fa ca fv cv h1 h2 HU o4);simp only[execOp,Sh];rfl
  ·cases h
 case binOp op t x y yt=>
  split at h
  ·rename_i v hv
   cases h
   obtain⟨cv,h1,h2⟩:=Gp hv (he.bQ x);exact Good.same (x:=(do eqGuard op t x y (a.eval x) (a.eval y);binOp op t (a.eval x) (a.eval y))) rfl hc ⟨cv,h1,h2 _ _ _ _⟩
  split at h
  ·rename_i ht;obtain⟨v,hv,e1⟩:=one h
   cases e1
   obtain⟨cv,h1,h2⟩:=JI t hv ht (he.bQ x) (he.bQ y) x y;exact Good.same (x:=(do eqGuard op t x y (a.eval x) (a.eval y);binOp op t (a.eval x) (a.eval y))) rfl hc ⟨cv,h1,h2 _ _ _ _⟩
  ·obtain⟨v,hv,e1⟩:=one h
   cases e1
   obtain⟨cv,h1,h2⟩:=Gq hv (he.bQ x) (he.bQ y) x y;exact Good.same (x:=(do eqGuard op t x y (a.eval x) (a.eval y);binOp op t (a.eval x) (a.eval y))) rfl hc ⟨cv,h1,h2 _ _ _ _⟩
 case unOp u t x=>
  obtain⟨v,hv,e1⟩:=one h
  cases e1
  obtain⟨cv,h1,h2⟩:=MQ (P:=P) hv (he.bQ x);exact Good.same rfl hc ⟨cv,h1,h2 _ _ _ _⟩
 case convert s d x=>
  split at h
  ·rename_i el b h1 h2 h3
   split at h
   ·rename_i h4
    cases h
    have hb:=he.bQ x;rw[h3] at hb;exact Good.of rfl (Gn hc h1 h2 h4 hb)
   ·cases h
  ·obtain⟨v,hv,e1⟩:=one h
   cases e1
   exact Good.same rfl hc (JB hc hv (he.bQ x))
 case makeFunc fn first eK=>
  cases fn<;>simp only[reduceCtorEq] at h
  rename_i f
  cases h
  refine Good.now hc rfl (.fn f _ _ _ _ (by simp) (by simp) (fun j hj bK=>?_) (fun j hj bK=>?_))
  ·simp only[getElem_map,Array.getElem_map,Array.getElem_toList];exact he.bQ _
  ·simp only[getElem_map,Array.getElem_map,Array.getElem_toList];exact he.bQ _
 case makeSlice t l c=>
  split at h
  ·rename_i el k1 x k2 y hu hl bV
   split at h
   ·rename_i zs hz
    split at h
    ·rename_i hb;obtain⟨b1,b2,b3,b4,b5⟩:=hb;have rl:=he.bQ l;have rc:=he.bQ c;rw[hl] at rl;rw[bV] at rc
     split at h
     ·rename_i hs
      cases h
      have NM:a.eval l=a.eval c:=by
       unfold xU at hs
       split at hs
       ·simp at hs;rw[hs]
       ·simp at hs;rw[hs.1,hs.2]
       ·cases hs
      have ey:=rc.dE;have:=A5 (t:=t) hc hu hz b1 k2 k2 y.toNat b3 b4;rw[Int.toNat_of_nonneg b2] at this;refine Good.of (x:=Instr.makeSlice t (a.eval l) (a.eval c)) rfl ?_;rw[NM,ey];exact this
     ·split at h
      ·rename_i hx0
       cases h
       subst hx0;have ey:=rc.dE;have ex:=rl.dE;have:=A4 (t:=t) hc hu hz b5 k1 k2 y.toNat b3 b4;rw[Int.toNat_of_nonneg b2] at this;refine Good.of (x:=Instr.makeSlice t (a.eval l) (a.eval c)) rfl ?_;rw[ex,ey];exact this
      ·cases h
    ·cases h
   ·cases h
  ·cases h
 case slice t x lo hi mx=>
  obtain⟨v,hv,e1⟩:=one h
  cases e1
  have Ca:∀(q:Option Operand) v cv,q.map (bQ e)=some v→q.map a.eval=some cv→aZ L H.length T w v cv:=by
   intro q v cv h1 h2
   cases q with
   |none=>cases h1
   |some q=>cases h1;cases h2;exact he.bQ q
  exact Good.same rfl hc (Gi hv (he.bQ x) (Ca lo) (Ca hi) (Ca mx) (by simp) (by simp) (by simp))
 case fieldAddr t x f=>
  obtain⟨v,hv,e1⟩:=one h
  cases e1
  exact Good.same rfl hc (A7 hv (he.bQ x))
 case field t x f=>
  obtain⟨v,hv,e1⟩:=one h
  cases e1
  exact Good.same rfl hc (Gl hv (he.bQ x))
 case indexAddr t x i=>
  obtain⟨v,hv,e1⟩:=one h
  cases e1
  exact Good.same rfl hc (A6 hv (he.bQ x) (he.bQ i))
 case index t x i=>
  obtain⟨v,hv,e1⟩:=one h
  cases e1
  exact Good.same rfl hc (Gk hv (he.bQ x) (he.bQ i))
 case extract x i=>
  split at h
  ·rename_i vs hx
   split at h
   ·rename_i bh
    cases h
    have hp:=he.bQ x;rw[hx] at hp;generalize Sh:a.eval x=cx at hp
    cases hp with
    |cJ _ cv h1 hr=>
     have oP:i<cv.size:=by omega
     refine Good.same (x:=Instr.extract (a.eval x) i) rfl hc ⟨cv[i],?_,?_⟩
     ·rw[Sh];simp only[Instr.extract,Array.getElem?_eq_getElem oP];rfl
     ·rw[getD_eq_getElem?_getD,getElem?_eq_getElem bh];exact hr i bh oP
   ·cases h
  ·cases h
 case range t x=>
  split at h
  ·rename_i s hx
   split at h
   ·rename_i hu
    cases h
    have hp:=he.bQ x;rw[hx] at hp;obtain⟨L',h1,h2,h3⟩:=hc.Nc s;refine Good.of (x:=Instr.range t (a.eval x)) rfl ⟨.pointer (some ⟨w.heap.size,0,none⟩),_,L',?_,h1,?_,h2⟩
    ·rw[hp.gp];simp only[Instr.range,Sem.run_bind,run_underlying hu,Result.andThen_ok];rfl
    ·rw[←h3];exact .ptr _ _ (by simp)
   ·cases h
  ·rename_i m hx
   split at h
   ·rename_i y es hT hm
    cases h
    obtain⟨kt,el⟩:=y;have hp:=he.bQ x;rw[hx] at hp;obtain⟨cv,w',L',h1,h2,h3,h4⟩:=CW hc hT hm;refine Good.of (x:=Instr.range t (a.eval x)) rfl ⟨cv,w',L',?_,h2,h3,h4⟩;rw[hp.uN.1];exact h1
   ·cases h
  ·cases h
 case makeMap t r=>
  cases r<;>simp only[reduceCtorEq] at h
  cases h
  obtain⟨cv,w',L',h1,h2,h3,h4⟩:=run_makeMap hc t;exact Good.of (x:=Instr.makeMap t none) rfl ⟨cv,w',L',h1,h2,h3,h4⟩
 case lookup t x i ok=>
  split at h
  ·rename_i m kt el k hx hT hk
   split at h
   ·rename_i es z hm hz
    split at h
    ·rename_i hf
     cases h
     have hp:=he.bQ x;rw[hx] at hp;obtain⟨cv,h1,h2⟩:=CY hc ok hT hm hz hf.1 hf.2;refine Good.same (x:=Instr.lookup t (a.eval x) (a.eval i) ok) rfl hc ⟨cv,?_,h2⟩;rw[hp.uN.1,wM hk (he.bQ i)];exact h1
    ·cases h
   ·cases h
  ·cases h
 case mapUpdate t m k x=>
  split at h
  ·rename_i i kt el kk hx hT hk
   split at h
   ·rename_i es hm
    split at h
    ·rename_i hf
     cases h
     have hp:=he.bQ m;rw[hx] at hp;obtain⟨w',h1,h2,h3⟩:=vN hc hT hm (he.bQ x) hf.1 hf.2;refine⟨.skip,undef,w',L,?_,.inr ⟨rfl,rfl⟩,h2,.top _,h3⟩;have:(Instr.mapUpdate t (a.eval m) (a.eval k) (a.eval x)).run P w=.ok () w':=by
      rw[hp.uN.1,wM hk (he.bQ k)];exact h1
     simp only[execOp,Sem.run_bind,this,Result.andThen_ok];rfl
    ·cases h
   ·cases h
  ·cases h
 case entry x=>
  split at h
  ·rename_i i hx;have hp:=he.bQ x;rw[hx] at hp;obtain⟨e2,bh⟩:=hp.mo
   split at h
   ·rename_i m n seen hi
    split at h
    ·rename_i es j hm hl
     split at h
     ·rename_i hn;subst hn;obtain⟨kv,hkv,e1⟩:=Option.map_eq_some_iff.1 h
      cases e1
      obtain⟨hj,rfl⟩:=List.getElem?_eq_some_iff.1 hkv;obtain⟨s0,rfl⟩:=List.getLast?_eq_some_iff.1 hl;obtain⟨cv,h1,h2⟩:=CX hc hi hm hj;refine Good.same (x:=Instr.entry (a.eval x)) rfl hc ⟨cv,?_,h2⟩;rw[e2];exact h1
     ·cases h
    ·cases h
   ·cases h
  ·cases h
 case next x s=>
  cases s<;>simp only[reduceCtorEq] at h
  split at h
  ·rename_i i hx;have hp:=he.bQ x;rw[hx] at hp;obtain⟨e2,bh⟩:=hp.mo
   split at h
   ·rename_i s pos hi;have hb:w.heap[L.bL i]?=some (.stringIter ⟨s.toArray⟩ pos):=hc.box i _ hi;have gN:(⟨s.toArray⟩:ByteArray).size=s.length:=by simp[ByteArray.size]
    split at h
    ·rename_i kE
     cases h
     obtain⟨h1,h2⟩:=hc.setIter (pos':=pos+(Utf8.decode ⟨s.toArray⟩ pos).2) hi;refine Good.of (x:=Instr.next (a.eval x) true type) rfl ⟨.tuple #[.bool true,goInt pos,.int .i32 (Utf8.decode ⟨s.toArray⟩ pos).1],_,L,?_,h1,?_,h2⟩
     ·rw[e2];simp[Instr.next,getObj,setObj,Sem.run,hb,gN,kE]
     ·refine .cJ _ _ rfl (fun j hj bK=>?_)
      match j,hj with
      |0,_=>exact .bool _
      |1,_=>exact .int _ _
      |2,_=>exact .int _ _
    ·rename_i kE
     cases h
     refine Good.same (x:=Instr.next (a.eval x) true type) rfl hc ⟨.tuple #[.bool false],?_,?_⟩
     ·rw[e2];simp[Instr.next,getObj,Sem.run,hb,gN,kE]
     ·refine .cJ _ _ rfl (fun j hj bK=>?_)
      match j,hj with
      |0,_=>exact .bool _
   ·cases h
  ·cases h
 case call c=>
  obtain⟨callee,args,B6⟩:=c
  cases callee<;>simp only[reduceCtorEq] at h
  rename_i b;obtain⟨ts⟩:=B6;obtain⟨args⟩:=args;have:=yk (ty:=type) (cst:=args.toArray.map fun|.const _=>true|_=>false) (B:=args.map a.eval) hc h (by simp) (fun j hj bK=>by
   simp only[getElem_map];exact he.bQ _)
  have e1:execOp a.eval ⟨dst,.call ⟨.builtin b,args.toArray,ts.toArray⟩,type,pos,after,guard⟩=builtin b ts.toArray type (args.toArray.map fun|.const _=>true|_=>false) (args.map a.eval).toArray:=by
   simp[execOp,resolve,invoke];rfl
  rw[←e1] at this;exact this
end
def Le (L:Lay)(H:List aG)(T:ay)(w:World)(Q:AV→List aG→ay→Prop)(e:Ending)(w':World):Prop:=
 ∃r H' T' L' cv,Q r H' T'∧e=.returned cv∧bN L' H' T' w'∧aZ L' H'.length T' w' r cv∧Ev H.length T.length L H.length T w L' H'.length T' w'
def al (P:Program)(f:FuncId)(args:List AV)(H:List aG)(T:ay)(Q:AV→List aG→ay→Prop):Prop:=
 (∀as w,(callFunc f as).run P w=.ok (.enter f as) w)∧
 ∀L w (ca:Array Value),bN L H T w→ca.size=args.length→(∀(j:Nat)(h:j<args.length)(h':j<ca.size),aZ L H.length T w (args[j]'h) (ca[j]'h'))→
  Calls P f ca w (Le L H T w Q)
theorem al.mono {P f args H T Q Q'}(h:al P f args H T Q)(hq:∀r H' T',Q r H' T'→Q' r H' T'):al P f args H T Q':=
 ⟨h.1,fun L w ca hc hl hr=>(h.2 L w ca hc hl hr).mono fun _ _ ⟨r,H',T',L',cv,q,k⟩=>⟨r,H',T',L',cv,hq _ _ _ q,k⟩⟩
def Is (r:AV)(H:List aG)(T:ay):AV→List aG→ay→Prop:=fun r' H' T'=>r'=r∧H'=H∧T'=T
def prune (nv:Nat):Env→Env
 |[]=>[]
 |(s,v)::r=>if s<nv then (s,v)::prune nv r else prune nv r
theorem pE (nv:Nat)(e:Env)(t:Nat):bZ (prune nv e) t=bZ e t∨bZ (prune nv e) t=.top:=by
 by_cases ht:t<nv
 ·left
  induction e with
  |nil=>rfl
  |cons x r ih=>
   obtain⟨s,v⟩:=x
   by_cases hs:s<nv
   ·simp[prune,bZ,hs,ih]
   ·have:s≠t:=by omega
    simp[prune,bZ,hs,ih,this]
 ·right
  induction e with
  |nil=>rfl
  |cons x r ih=>
   obtain⟨s,v⟩:=x
   by_cases hs:s<nv
   ·have:s≠t:=by omega
    simp[prune,bZ,hs,ih,this]
   ·simp[prune,hs,ih]
def fQ (o:Oper)(e:Env):Option (FuncId×List AV):=
 match o.op with
 |.call { callee:=.value f,args,argTypes:=_ }=>match bQ e f with
  |.fn g first eK=>some (g,first++args.toList.map (bQ e)++eK)
  |_=>none
 |_=>none
def kz (C:Cx)(dst:Option Tmp)(v:AV)(e:Env)(H:List aG)(T:ay)(K:St→Prop):Prop:=
 match dst with
 |some d=>d<C.nt∧K ⟨mT e d v,H,T⟩
 |none=>K ⟨e,H,T⟩
def tP (C:Cx)(K:St→Prop)(dst:Option Tmp)(g:FuncId)(as:List AV)(s:St):Prop:=
 ∃Q,al C.P g as s.H s.T Q∧∀v H' T',Q v H' T'→kz C dst v s.e H' T' K
def yT (L:Lay)(N:Nat)(T:ay)(w:World)(vs:List AV)(c:List Value):Prop:=
 c.length=vs.length∧∀(j:Nat)(h:j<vs.length)(h':j<c.length),aZ L N T w (vs[j]'h) (c[j]'h')
theorem yT.append {L:Lay}{N:Nat}{T:ay}{w:World}{a b:List AV}{c d:List Value}(h:yT L N T w a c)(k:yT L N T w b d):yT L N T w (a++b) (c++d):=by
 refine⟨by simp[h.1,k.1],fun j hj bK=>?_⟩;rw[List.getElem_append,List.getElem_append]
 by_cases bh:j<a.length
 ·rw[dif_pos bh,dif_pos (by rw[h.1];exact bh)];exact h.2 _ _ _
 ·rw[dif_neg bh,dif_neg (by rw[h.1];exact bh)];have:=k.2 (j-a.length) (by simp at hj;omega) (by simp at bK;rw[h.1] at bK;omega);simpa[h.1] using this
def jD (all:Array Oper)(j:Nat)(e:Env):Option (Option Bool):=
 match (all[j]?).bind (·.dst) with
 |some d=>match bZ e d with
  |.bool b=>some (some b)
  |.cJ []=>some none
  |_=>none
 |none=>none
def FH (P:Program)(o:Oper)(e:Env):Option (Nat×Bool):=
 match o.op with
 |.binOp op t x (.const (.slice none _ _)) _=>match P.underlying t,bQ e x,op with
  |some (.slice _),.sl n _ _,.eql=>some (n,true)
  |some (.slice _),.sl n _ _,.neq=>some (n,false)
  |some (.slice _),.cO _ _ n,.eql=>some (n,true)
  |some (.slice _),.cO _ _ n,.neq=>some (n,false)
  |_,_,_=>none
 |_=>none
theorem JE {P:Program}{o:Oper}{e:Env}{a:Act}{n:Nat}{q:Bool}{L:Lay}{N:Nat}{T:ay}{w:World}(h:FH P o e=some (n,q))(he:eV L N T w e a) :
  ∃b:Bool,(0<n→b=!q)∧(execOp a.eval o).run P w=.ok (.value (.bool b)) w:=by
 unfold FH at h
 split at h
 ·rename_i op t x l c y ho;have hx:=he.bQ x;have core:∀(op:BinOp)(n cap:Nat)(ad:Option Addr)(el:TypeId),P.underlying t=some (.slice el)→a.eval x=.slice ad n cap→(0<n→ad.isNone=false)→(op=.eql∨op=.neq)→o.op=.binOp op t x (.const (.slice none l c)) y→∃b:Bool,(0<n→b=!(op==.eql))∧(execOp a.eval o).run P w=.ok (.value (.bool b)) w:=by
   intro op n cap ad el hu hv DJ oL ho;have hg:(eqGuard op t x (.const (.slice none l c)) (a.eval x) (a.eval (.const (.slice none l c)))).run P w=.ok () w:=mH op t _ _ _ _ (by rw[hv];exact⟨fun _ e=>(by cases e),fun e=>(by cases e)⟩);have heq:∀d:Nat,(Op.equalIn (d+1) t (.slice ad n cap) (.slice none l c)).run P w=.ok ad.isNone w:=by
    intro d
    cases ad<;>simp only[Op.equalIn,Sem.run_bind,run_underlying hu,Result.andThen_ok]<;>rfl
   have cK:=jE (P:=P) (w:=w) t (.slice ad n cap) (.slice none l c) ad.isNone op oL rfl rfl heq;refine⟨if op=.eql then ad.isNone else !ad.isNone,fun hn=>?_,?_⟩
   ·have:=DJ hn;rcases oL with rfl|rfl<;>simp[this]
   ·rw[hv] at hg;have BL:a.eval (.const (.slice none l c))=.slice none l c:=rfl;rw[BL] at hg;simp only[execOp,ho,Sem.run_bind,hv,BL,hg,Result.andThen_ok,cK];rfl
  have fin:∀(op:BinOp)(n:Nat)(cs:List AV)(tg:Tag)(el:TypeId),P.underlying t=some (.slice el)→bQ e x=.sl n cs tg→(op=.eql∨op=.neq)→o.op=.binOp op t x (.const (.slice none l c)) y→∃b:Bool,(0<n→b=!(op==.eql))∧(execOp a.eval o).run P w=.ok (.value (.bool b)) w:=by
   intro op n cs tg el hu hs oL ho;rw[hs] at hx;obtain⟨ad,cap,hv,_,_,BW⟩:=hx.eS;refine core op n cap ad el hu hv (fun hn=>?_) oL ho;rcases BW with⟨_,h0⟩|⟨b,base,cv,e1,_⟩
   ·omega
   ·rw[e1];rfl
  have FD:∀(op:BinOp)(i p n:Nat)(el:TypeId),P.underlying t=some (.slice el)→bQ e x=.cO i p n→(op=.eql∨op=.neq)→o.op=.binOp op t x (.const (.slice none l c)) y→∃b:Bool,(0<n→b=!(op==.eql))∧(execOp a.eval o).run P w=.ok (.value (.bool b)) w:=by
   intro op i p n el hu hs oL ho;rw[hs] at hx;obtain⟨cap,hv,_,_⟩:=hx.iF;exact core op n cap _ el hu hv (fun _=>rfl) oL ho
  split at h
  ·rename_i el n' cs tg hu hs
   cases h
   obtain⟨b,h1,h2⟩:=fin .eql _ _ _ _ hu hs (.inl rfl) ho;exact⟨b,fun hn=>h1 hn,h2⟩
  ·rename_i el n' cs tg hu hs
   cases h
   obtain⟨b,h1,h2⟩:=fin .neq _ _ _ _ hu hs (.inr rfl) ho;exact⟨b,fun hn=>h1 hn,h2⟩
  ·rename_i el i' p' n' hu hs
   cases h
   obtain⟨b,h1,h2⟩:=FD .eql _ _ _ _ hu hs (.inl rfl) ho;exact⟨b,fun hn=>h1 hn,h2⟩
  ·rename_i el i' p' n' hu hs
   cases h
   obtain⟨b,h1,h2⟩:=FD .neq _ _ _ _ hu hs (.inr rfl) ho;exact⟨b,fun hn=>h1 hn,h2⟩
  ·cases h
 ·cases h
def FJ (P:Program)(bx:List Nat)(o:Oper)(e:Env)(H:List aG):Option (Nat×List AV):=
 match o.op,o.dst with
 |.call { callee:=.builtin .append,args,argTypes },some d=>
  if bx.contains d=true then
   match argTypes.toList,args.toList.map (bQ e) with
   |[t,t2],[s,x]=>mu P H t t2 s x
   |_,_=>none
  else none
 |.buildSlice t n ps,some d=>if bx.contains d=true then (lS P t n (ps.toList.map fun(x:Nat×Operand)=>(x.1,bQ e x.2))).map fun ys=>(n,ys) else none
 |_,_=>none
theorem JH {P:Program}{bx:List Nat}{o:Oper}{e:Env}{a:Act}{L:Lay}{H:List aG}{T:ay}{w:World}{m:Nat}{ys:List AV}(h:FJ P bx o e H=some (m,ys))(hc:bN L H T w)(he:eV L H.length T w e a) :
  ∃k cv w' L',(execOp a.eval o).run P w=.ok (.value cv) w'∧bN L' (H++[.cells (ys++List.replicate k .top)]) T w'∧aZ L' (H++[aG.cells (ys++List.replicate k .top)]).length T w' (.cO H.length 0 m) cv∧
   Ev H.length T.length L H.length T w L' (H++[aG.cells (ys++List.replicate k .top)]).length T w':=by
 obtain⟨dst,op,type,pos,after,guard⟩:=o;unfold FJ at h
 split at h
 ·rename_i args B6 d' oL hd;simp only at oL;subst oL
  split at h
  ·split at h
   ·rename_i t t2 s x BS fg;have rf:B6=#[t,t2]:=by rw[←Array.toList_inj];exact BS
    subst rf
    match BZ:args.toList,fg with
    |[p,q],fg=>
     simp only[map_cons,map_nil,List.cons.injEq,and_true] at fg;obtain⟨e1,e2⟩:=fg;have h0:=he.bQ p;have h1:=he.bQ q;rw[e1] at h0;rw[e2] at h1;obtain⟨k,cv,w',L',cK,g1,g2,g3⟩:=C3 (ty:=type) hc h h0 h1;refine⟨k,cv,w',L',?_,g1,g2,g3⟩;have pt:args=#[p,q]:=by rw[←Array.toList_inj];exact BZ
     subst pt;simp only[execOp,resolve,Sem.run_bind,Sem.run_pure,Result.andThen_ok,invoke,builtin,map_toArray,map_cons,map_nil,cK]
   ·cases h
  ·cases h
 ·rename_i t n ps d' oL hd;simp only at oL;subst oL
  split at h
  ·cases hb:lS P t n (ps.toList.map fun(x:Nat×Operand)=>(x.1,bQ e x.2)) with
   |none=>rw[hb] at h;cases h
   |some ys0=>
    rw[hb] at h
    cases h
    obtain⟨g1,g2⟩:=rK he ps;obtain⟨cv,w',L',cK,k1,k2,k3⟩:=yj hc hb g1 g2;refine⟨0,cv,w',L',?_,by simpa using k1,by simpa using k2,by simpa using k3⟩;show Sem.run P (do pure (Next.value (←Instr.buildSlice t _ (ps.map fun(x:Nat×Operand)=>(x.1,a.eval x.2))))) w=_;simp only[Sem.run_bind,cK,Result.andThen_ok,Sem.run_pure]
  ·cases h
 ·cases h
def s8 (o:Oper)(e:Env):Option (TypeId×TypeId×Nat×Nat×Nat×AV):=
 match o.op with
 |.call { callee:=.builtin .append,args,argTypes }=>
  match argTypes.toList,args.toList.map (bQ e) with
  |[t,t2],[.dP i n cap,x]=>some (t,t2,i,n,cap,x)
  |_,_=>none
 |_=>none
def P8 (C:Cx)(K:St→Prop)(dst:Option Tmp)(t t2:TypeId)(i n cap:Nat)(x:AV)(e:Env)(H:List aG)(T:ay):Prop:=
 ∃(el:TypeId) (vs xs:List AV) (m:Nat),C.P.underlying t=some (.slice el)∧H[i]?=some (.cells vs)∧vs.length=cap*C.P.cellsOf el∧kG H (C.P.cellsOf el) x=some (m,xs)∧(n+m)*C.P.bytesOf el≤140737488355328∧n+m≤9223372036854775807∧
  ji C.P t2=true∧(aX C.P el).isSome=true∧
  (n+m≤cap→kz C dst (.dP i (n+m) cap) e (H.set i (.cells (vs.take (n*C.P.cellsOf el)++xs++vs.drop ((n+m)*C.P.cellsOf el)))) T K)∧
  ∀nc,cap<n+m→n+m≤nc→kz C dst (.dP H.length (n+m) nc) e (H++[.cells (vs.take (n*C.P.cellsOf el)++xs++List.replicate ((nc-(n+m))*C.P.cellsOf el) .top)]) T K
def lB (P:Program)(bx:List Nat)(o:Oper)(e:Env)(H:List aG):Option (Nat×List AV×Nat):=
 match o.op,o.dst with
 |.call { callee:=.builtin .append,args,argTypes },some d=>
  if bx.contains (d+100000)=true then
   match argTypes.toList,args.toList.map (bQ e) with
   |[t,t2],[s,x]=>match P.underlying t,mu P H t t2 s x with
    |some (.slice el),some (m,ys)=>some (m,ys,P.cellsOf el)
    |_,_=>none
   |_,_=>none
  else none
 |_,_=>none
theorem wx {P:Program}{bx:List Nat}{o:Oper}{e:Env}{a:Act}{L:Lay}{H:List aG}{T:ay}{w:World}{m z:Nat}{ys:List AV}(h:lB P bx o e H=some (m,ys,z))(hc:bN L H T w)(he:eV L H.length T w e a) :
  ∃nc,m≤nc∧∃cv w' L',(execOp a.eval o).run P w=.ok (.value cv) w'∧bN L' (H++[.cells (ys++List.replicate ((nc-m)*z) .top)]) T w'∧aZ L' (H++[aG.cells (ys++List.replicate ((nc-m)*z) .top)]).length T w' (.dP H.length m nc) cv∧
   Ev H.length T.length L H.length T w L' (H++[aG.cells (ys++List.replicate ((nc-m)*z) .top)]).length T w':=by
 obtain⟨dst,op,type,pos,after,guard⟩:=o;unfold lB at h
 split at h
 ·rename_i args B6 d' oL hd;simp only at oL;subst oL
  split at h
  ·split at h
   ·rename_i t t2 s x BS fg;have rf:B6=#[t,t2]:=by rw[←Array.toList_inj];exact BS
    subst rf
    split at h
    ·rename_i el m' ys' hu hb
     cases h
     match BZ:args.toList,fg with
     |[p,q],fg=>
      simp only[map_cons,map_nil,List.cons.injEq,and_true] at fg;obtain⟨e1,e2⟩:=fg;have h0:=he.bQ p;have h1:=he.bQ q;rw[e1] at h0;rw[e2] at h1;obtain⟨nc,mK,cv,w',L',cK,g1,g2,g3⟩:=A9 (ty:=type) hc hb hu h0 h1;refine⟨nc,mK,cv,w',L',?_,g1,g2,g3⟩;have pt:args=#[p,q]:=by rw[←Array.toList_inj];exact BZ
      subst pt;simp only[execOp,resolve,Sem.run_bind,Sem.run_pure,Result.andThen_ok,invoke,builtin,map_toArray,map_cons,map_nil,cK]
    ·cases h
   ·cases h
  ·cases h
 ·cases h
def uD (o:Oper)(e:Env)(H:List aG):Option (Nat×Nat×Nat×List Nat×List (cY×AV)):=
 match o.op with
 |.next x false=>match bQ e x with
  |.ptr i 0=>match H[i]? with
   |some (.kq m n seen)=>match H[m]? with
    |some (.map es)=>some (i,m,n,seen,es)
    |_=>none
   |_=>none
  |_=>none
 |_=>none
def D8 (C:Cx)(K:St→Prop)(dst:Option Tmp)(i m n:Nat)(seen:List Nat)(es:List (cY×AV))(e:Env)(H:List aG)(T:ay):Prop:=
 n=es.length∧((∀j,j<n→j∈seen)→kz C dst (.cJ [.bool false]) e H T K)∧
  ∀(j:Nat)(k:cY)(v:AV),es[j]?=some (k,v)→j∉seen→kz C dst (.cJ [.bool true,k.av,v]) e (H.set i (.kq m n (seen++[j]))) T K
def gQ (C:Cx)(all:Array Oper)(K:St→Prop):List Oper→St→Prop
 |[],s=>K s
 |o::r,s=>
  let exec:Prop:=match fQ o s.e with
   |some (g,as)=>tP C (gQ C all K r) o.dst g as s
   |none=>match FH C.P o s.e with
    |some (n,q)=>∀b:Bool,(0<n→b=!q)→kz C o.dst (.bool b) s.e s.H s.T (gQ C all K r)
    |none=>match FJ C.P C.bx o s.e s.H with
     |some (m,ys)=>∀k:Nat,kz C o.dst (.cO s.H.length 0 m) s.e (s.H++[.cells (ys++List.replicate k .top)]) s.T (gQ C all K r)
     |none=>match lB C.P C.bx o s.e s.H with
      |some (m,ys,z)=>∀nc:Nat,m≤nc→kz C o.dst (.dP s.H.length m nc) s.e (s.H++[.cells (ys++List.replicate ((nc-m)*z) .top)]) s.T (gQ C all K r)
      |none=>match s8 o s.e with
       |some (t,t2,i,n,cap,x)=>P8 C (gQ C all K r) o.dst t t2 i n cap x s.e s.H s.T
       |none=>match uD o s.e s.H with
        |some (i,m,n,seen,es)=>D8 C (gQ C all K r) o.dst i m n seen es s.e s.H s.T
        |none=>match Fm C.P o s.e s.H s.T with
         |some (v,H',T')=>kz C o.dst v s.e H' T' (gQ C all K r)
         |none=>False
  match o.guard with
  |none=>exec
  |some (j,want)=>match jD all j s.e with
   |some b=>if b=some want then exec else kz C o.dst (.cJ []) s.e s.H s.T (gQ C all K r)
   |none=>False
theorem mD {L:Lay}{N:Nat}{T:ay}{w:World}{e:Env}{a:Act}{all:Array Oper}{j:Nat}{b:Option Bool}(he:eV L N T w e a)(h:jD all j e=some b):yielded all a.tmps j=b:=by
 unfold jD at h
 split at h
 ·rename_i d hd
  split at h
  ·rename_i b' hb
   cases h
   have hr:=he d;rw[hb] at hr;have:=hr.ig;unfold yielded;rw[hd];have TK:a.tmps[d]?=some (.bool b'):=by
    simp only[Array.getD_eq_getD_getElem?] at this
    cases hx:a.tmps[d]? with
    |none=>rw[hx] at this;simp[undef] at this
    |some v=>rw[hx] at this;simp at this;rw[this]
   simp[TK]
  ·rename_i hb
   cases h
   have hr:=he d;rw[hb] at hr;unfold yielded;rw[hd];generalize hx:a.tmps.getD d undef=x at hr
   cases hr with
   |cJ _ cv h1 _=>
    cases hy:a.tmps[d]? with
    |none=>simp[hy]
    |some y=>
     have:y=.tuple cv:=by simpa[Array.getD_eq_getD_getElem?,hy] using hx
     subst this;simp[hy]
  ·cases h
 ·cases h
theorem eR.put {C:Cx}{s:St}{L L':Lay}{w w':World}{a:Act}{H':List aG}{T':ay}{v:AV}{cv:Value}{K:St→Prop}{dst:Option Tmp}(hc:eR C s L w a)(hn:bN L' H' T' w')(hr:aZ L' H'.length T' w' v cv)
  (ev:Ev s.H.length s.T.length L s.H.length s.T w L' H'.length T' w') (hp:kz C dst v s.e H' T' K):∃s',K s'∧s'.H=H'∧s'.T=T'∧eR C s' L' w' (a.put dst cv):=by
 have sU:=hc.env.keep ev.keeps;have iD:=le_trans hc.nb ev.n;have iq:=le_trans hc.tb ev.t
 cases dst with
 |none=>exact⟨⟨s.e,H',T'⟩,hp,rfl,rfl,⟨iD,iq,hn,hc.size,hc.defers,sU⟩⟩
 |some d=>
  obtain⟨hd,hk⟩:=hp;refine⟨⟨Am.mT s.e d v,H',T'⟩,hk,rfl,rfl,⟨iD,iq,hn,by simp[Act.put,hc.size],hc.defers,sU.put (by rw[hc.size];exact hd) hr⟩⟩
theorem DA {C:Cx}{all:Array Oper}{K:St→Prop}:∀(l:List Oper)(s:St),gQ C all K l s→∀L w a (L0:Lay) (s0:St) (w0:World),eR C s L w a→Ev C.nb C.tb L0 s0.H.length s0.T w0 L s.H.length s.T w→
  wpList C.P all (dc C (eJ K fun _ _=>False) L0 s0 w0) l a w:=by
 intro l
 induction l with
 |nil=>intro s h L w a L0 s0 w0 hc ev;exact⟨s,L,h,hc,ev⟩
 |cons o r ih=>
  intro s h L w a L0 s0 w0 hc ev;have OA:(match fQ o s.e with
   |some (g,as)=>tP C (gQ C all K r) o.dst g as s
   |none=>match FH C.P o s.e with
    |some (n,q)=>∀b:Bool,(0<n→b=!q)→kz C o.dst (.bool b) s.e s.H s.T (gQ C all K r)
    |none=>match FJ C.P C.bx o s.e s.H with
     |some (m,ys)=>∀k:Nat,kz C o.dst (.cO s.H.length 0 m) s.e (s.H++[.cells (ys++List.replicate k .top)]) s.T (gQ C all K r)
     |none=>match lB C.P C.bx o s.e s.H with
      |some (m,ys,z)=>∀nc:Nat,m≤nc→kz C o.dst (.dP s.H.length m nc) s.e (s.H++[.cells (ys++List.replicate ((nc-m)*z) .top)]) s.T (gQ C all K r)
      |none=>match s8 o s.e with
       |some (t,t2,i,n,cap,x)=>P8 C (gQ C all K r) o.dst t t2 i n cap x s.e s.H s.T
       |none=>match uD o s.e s.H with
        |some (i,m,n,seen,es)=>D8 C (gQ C all K r) o.dst i m n seen es s.e s.H s.T
        |none=>match Fm C.P o s.e s.H s.T with
         |some (v,H',T')=>kz C o.dst v s.e H' T' (gQ C all K r)
         |none=>False)→o.wp C.P a w (wpList C.P all (dc C (eJ K fun _ _=>False) L0 s0 w0) r) (dc C (eJ K fun _ _=>False) L0 s0 w0):=by
   intro hx
   split at hx
   ·rename_i g as jg;obtain⟨Q,⟨y6,hq⟩,hk⟩:=hx;unfold fQ at jg
    split at jg
    ·rename_i f args B6 oL
     split at jg
     ·rename_i g' first eK hf
      cases jg
      have E7:=hc.env.bQ f;rw[hf] at E7;generalize ZZ:a.eval f=fv at E7
      cases E7 with
      |fn _ _ _ fa ca h1 h2 HU o4=>
       have cK:(execOp a.eval o).run C.P w=.ok (.enter g (fa++args.map a.eval++ca)) w:=by
        simp only[execOp,oL,resolve,ZZ,Deferred.ofValue,Sem.run_bind,Sem.run_pure,Result.andThen_ok,invoke,y6]
       unfold Oper.wp;rw[cK,Oper.upon_enter];have fy:yT L s.H.length s.T w (first++args.toList.map (bQ s.e)++eK) (fa++args.map a.eval++ca).toList:=by
        simp only[Array.toList_append,Array.toList_map];refine(yT.append ⟨by simpa using h1,fun j hj bK=>by simpa using HU j hj (by simpa using bK)⟩ ⟨by simp,fun j hj bK=>?_⟩).append ⟨by simpa using h2,fun j hj bK=>by simpa using o4 j hj (by simpa using bK)⟩;simp only[getElem_map];exact hc.env.bQ _
       refine(hq L w _ hc.mN (by simpa using fy.1) (fun j hj bK=>by
        have h3:=fy.2 j hj (by rw[Array.length_toList];exact bK)
        rwa [Array.getElem_toList] at h3)).mono ?_
       ·rintro e w' ⟨rr,H',T',L',cv,hQ,rfl,cQ,dF,dU⟩;obtain⟨s',mL,e1,e2,jz⟩:=hc.put cQ dF dU (hk _ _ _ hQ);exact ih s' mL L' w' _ L0 s0 w0 jz (ev.trans (by rw[e1,e2];exact dU.mono hc.nb hc.tb))
     ·cases jg
    ·cases jg
   ·split at hx
    ·rename_i n q BU;obtain⟨b,hb,cK⟩:=JE BU hc.env;obtain⟨s',mL,e1,e2,jz⟩:=hc.put (v:=.bool b) (cv:=.bool b) hc.mN (.bool b) (Ev.refl (le_refl _) (le_refl _)) (hx b hb);unfold Oper.wp;rw[cK];exact ih s' mL L w _ L0 s0 w0 jz (by rw[e1,e2];exact ev)
    split at hx
    ·rename_i m ys Sk;obtain⟨k,cv,w',L',cK,cQ,dF,dU⟩:=JH Sk hc.mN hc.env;obtain⟨s',mL,e1,e2,jz⟩:=hc.put cQ dF dU (hx k);unfold Oper.wp;rw[cK];exact ih s' mL L' w' _ L0 s0 w0 jz (ev.trans (by rw[e1,e2];exact dU.mono hc.nb hc.tb))
    split at hx
    ·rename_i m ys z Sk;obtain⟨nc,mK,cv,w',L',cK,cQ,dF,dU⟩:=wx Sk hc.mN hc.env;obtain⟨s',mL,e1,e2,jz⟩:=hc.put cQ dF dU (hx nc mK);unfold Oper.wp;rw[cK];exact ih s' mL L' w' _ L0 s0 w0 jz (ev.trans (by rw[e1,e2];exact dU.mono hc.nb hc.tb))
    split at hx
    ·rename_i t t2 i n cap x Ff;obtain⟨el,vs,xs,m,hu,hH,NQ,mQ,tn,ri,BU,qW,E5,da⟩:=hx;unfold s8 at Ff
     split at Ff
     ·rename_i args B6 oL
      split at Ff
      ·rename_i t' t2' i' n' FE x' BS fg
       cases Ff
       have rf:B6=#[t,t2]:=by rw[←Array.toList_inj];exact BS
       subst rf;have jQ:args.toList.length=2:=by have:=congrArg List.length fg;simpa using this
       match BZ:args.toList,jQ,fg with
       |[p,q],_,fg=>
        simp only[map_cons,map_nil,List.cons.injEq,and_true] at fg;obtain⟨e1,e2⟩:=fg;have h0:=hc.env.bQ p;have h1:=hc.env.bQ q;rw[e1] at h0;rw[e2] at h1;have pt:args=#[p,q]:=by rw[←Array.toList_inj];exact BZ
        subst pt;have hex:∀cv w',(Builtin.append_ #[t,t2] o.type #[a.eval p,a.eval q]).run C.P w=.ok cv w'→(execOp a.eval o).run C.P w=.ok (.value cv) w':=fun cv w' hr=>by
         simp only[execOp,oL,resolve,Sem.run_bind,Sem.run_pure,Result.andThen_ok,invoke,builtin,map_toArray,map_cons,map_nil,hr]
        rcases zH (ty:=o.type) hc.mN h0 h1 hu hH NQ mQ tn ri BU qW with⟨hle,cv,w',L',cK,cQ,dF,dU⟩|⟨bh,nc,mK,cv,w',L',cK,cQ,dF,dU⟩
        ·obtain⟨s',mL,e1,e2,jz⟩:=hc.put cQ dF dU (E5 hle);unfold Oper.wp;rw[hex _ _ cK];exact ih s' mL L' w' _ L0 s0 w0 jz (ev.trans (by rw[e1,e2];exact dU.mono hc.nb hc.tb))
        ·obtain⟨s',mL,e1,e2,jz⟩:=hc.put cQ dF dU (da nc bh mK);unfold Oper.wp;rw[hex _ _ cK];exact ih s' mL L' w' _ L0 s0 w0 jz (ev.trans (by rw[e1,e2];exact dU.mono hc.nb hc.tb))
      ·cases Ff
     ·cases Ff
    split at hx
    ·rename_i i m n seen es jy;obtain⟨rfl,E5,da⟩:=hx;unfold uD at jy
     split at jy
     ·rename_i x oL
      split at jy
      ·rename_i i' RO
       split at jy
       ·rename_i m' n' ab5 hi
        split at jy
        ·rename_i es' hm
         cases jy
         have hp:=hc.env.bQ x;rw[RO] at hp;obtain⟨e2,bh⟩:=hp.mo;have hex:∀cv w',(Instr.next (.pointer (some ⟨L.bL i,0,none⟩)) false o.type).run C.P w=.ok cv w'→(execOp a.eval o).run C.P w=.ok (.value cv) w':=fun cv w' hr=>by
          simp only[execOp,oL,Sem.run_bind,e2,hr,Result.andThen_ok];rfl
         rcases Gj hc.mN o.type hi hm with⟨fy,cK⟩|⟨j,hj,cv,w',Q1,cK,cQ,dF,dU⟩
         ·obtain⟨s',mL,e1,e2,jz⟩:=hc.put (v:=.cJ [.bool false]) (cv:=.tuple #[.bool false]) hc.mN (.cJ _ _ rfl (fun j hj bK=>by match j,hj with|0,_=>exact .bool _)) (Ev.refl (le_refl _) (le_refl _)) (E5 fy);unfold Oper.wp;rw[hex _ _ cK];exact ih s' mL L w _ L0 s0 w0 jz (by rw[e1,e2];exact ev)
         ·obtain⟨s',mL,e1,e2,jz⟩:=hc.put cQ dF dU (da j _ _ (getElem?_eq_getElem hj) Q1);unfold Oper.wp;rw[hex _ _ cK];exact ih s' mL L w' _ L0 s0 w0 jz (ev.trans (by rw[e1,e2];exact dU.mono hc.nb hc.tb))
        ·cases jy
       ·cases jy
      ·cases jy
     ·cases jy
    split at hx
    ·rename_i v H' T' oL;obtain⟨n,cv,w',L',cK,hn,cQ,dF,dU⟩:=xh hc.mN hc.env oL;obtain⟨s',mL,e1,e2,jz⟩:=hc.put cQ dF dU hx;unfold Oper.wp;rw[cK];have fin:=ih s' mL L' w' _ L0 s0 w0 jz (ev.trans (by rw[e1,e2];exact dU.mono hc.nb hc.tb));rcases hn with rfl|⟨rfl,rfl⟩
     ·exact fin
     ·exact fin
    ·exact hx.elim
  unfold wpList;unfold gQ at h
  dsimp only at h
  split at h
  ·rename_i hg;rw[if_pos (by simp[Region.wanted,hg])];exact .inl (OA h)
  ·rename_i j want hg
   split at h
   ·rename_i b hb;have hy:=mD hc.env hb
    split at h
    ·rename_i sO;rw[if_pos (by simp[Region.wanted,hg,hy,sO])];exact .inl (OA h)
    ·rename_i sO;rw[if_neg (by simp[Region.wanted,hg,hy,sO])];obtain⟨s',mL,e1,e2,jz⟩:=hc.put (v:=.cJ []) (cv:=undef) hc.mN (.cJ [] #[] rfl (fun j hj=>by simp at hj)) (Ev.refl (le_refl _) (le_refl _)) h;exact ih s' mL L w _ L0 s0 w0 jz (by rw[e1,e2];exact ev)
   ·exact h.elim
theorem xf {C:Cx}{id:Nat}{ops:List Oper}{K:St→Prop}{Q:Exit→St→Prop}{s:St}(h:gQ C ops.toArray K ops ⟨prune C.nv s.e,s.H,s.T⟩):AW C (.region id ops.toArray false) (eJ K Q) s:=by
 intro L w a hc;have jz:eR C ⟨prune C.nv s.e,s.H,s.T⟩ L w a:=⟨hc.nb,hc.tb,hc.mN,hc.size,hc.defers,fun t=>by
  rcases pE C.nv s.e t with e|e<;>rw[e]
  ·exact hc.env t
  ·exact .top _⟩
 refine wp_region_lit ?_;have:=DA ops _ h L w a L s w jz (Ev.refl hc.nb hc.tb);have key:∀(l:List Oper)(a:Act)(w':World),wpList C.P ops.toArray (dc C (eJ K fun _ _=>False) L s w) l a w'→wpList C.P ops.toArray (dc C (eJ K Q) L s w) l a w':=by
  intro l;have y4:∀e a w',dc C (eJ K fun _ _=>False) L s w e a w'→dc C (eJ K Q) L s w e a w':=by
   rintro e a w' ⟨s',L',q,r⟩;refine⟨s',L',?_,r⟩
   cases e<;>first|exact q|exact q.elim
  induction l with
  |nil=>intro a w' h;exact y4 _ _ _ h
  |cons o r ih=>
   intro a w' h;unfold wpList at h ⊢
   split
   ·rename_i hw;rw[if_pos hw] at h;rcases h with h|⟨h1,h2⟩
    ·refine .inl ?_;unfold Oper.wp at h ⊢;generalize (execOp a.eval o).run C.P w'=rr at h ⊢
     cases rr with
     |ok n w''=>
      cases n<;>simp only[Oper.upon] at h ⊢<;>first
       |exact ih _ _ h
       |exact h
       |(refine h.mono ?_
         intro e w3 he
         cases e with
         |returned v=>exact ih _ _ he
         |panicked ch=>exact y4 _ _ _ he
         |outgrown=>obtain⟨a0,w0,h0⟩:=he;exact⟨a0,w0,y4 _ _ _ h0⟩)
       |exact h.mono fun v w3 he=>ih _ _ he
     |halt hh w''=>cases hh<;>simp only[Oper.upon] at h ⊢<;>first|exact y4 _ _ _ h|exact h
    ·obtain⟨a0,w0,h0⟩:=h2;exact .inr ⟨h1,a0,w0,y4 _ _ _ h0⟩
   ·rename_i hw;rw[if_neg hw] at h;exact ih _ _ h
 exact key _ _ _ this
theorem ND {C:Cx}{c:Operand}{x y:Code}{Q:Exit→St→Prop}{s:St}{t:Bool}(hc:bQ s.e c=.bool t)(h:if t=true then AW C x Q s else AW C y Q s):AW C (.cond c x y) Q s:=by
 intro L w a hs;have hr:=hs.env.bQ c;rw[hc] at hr;refine wp_cond hr.ig ?_
 cases t
 ·exact h L w a hs
 ·exact h L w a hs
def D3 (P:Program)(s:St):ResultVar→Option AV
 |.tmp t=>some (bZ s.e t)
 |.cell t ty=>match Iy s.H (bZ s.e t) with
  |some (vs,o)=>oZ P ty vs o
  |none=>none
def vY (P:Program)(s:St):List ResultVar→Option (List AV)
 |[]=>some []
 |x::r=>match D3 P s x,vY P s r with
  |some v,some vs=>some (v::vs)
  |_,_=>none
def Mq (P:Program)(rs:List ResultVar)(s:St):Option AV:=
 match vY P s rs with
 |some [v]=>some v
 |some vs=>some (.cJ vs)
 |none=>none
def rn (P:Program)(rs:List ResultVar)(Q:AV→List aG→ay→Prop):Exit→St→Prop
 |.ret,s|.normal,s=>match Mq P rs s with
  |some v=>Q v s.H s.T
  |none=>False
 |_,_=>False
def xD (tmps:Array Value):ResultVar→Sem Value
 |.tmp t=>pure (tmps.getD t undef)
 |.cell t ty=>do loadVar ty (←asAddr (tmps.getD t undef))
theorem C5 (fn:Func)(tmps:Array Value):results fn tmps=(do let vs←fn.results.mapM (xD tmps);pure (if h:vs.size=1 then vs[0] else .tuple vs)):=rfl
theorem vh {C:Cx}{s:St}{L:Lay}{w:World}{a:Act}{fn:Func}{v:AV}(hc:eR C s L w a)(h:Mq C.P fn.results.toList s=some v):∃cv,(results fn a.tmps).run C.P w=.ok cv w∧aZ L s.H.length s.T w v cv:=by
 have one:∀x v,D3 C.P s x=some v→∃cv,(xD a.tmps x).run C.P w=.ok cv w∧aZ L s.H.length s.T w v cv:=by
  intro x v hx
  cases x with
  |tmp t=>cases hx;exact⟨_,rfl,hc.env t⟩
  |cell t ty=>
   simp only[D3] at hx
   split at hx
   ·rename_i vs o tW;obtain⟨b,base,cv,e2,hr,jY⟩:=vg hc.mN (hc.env t) tW;obtain⟨c,h1,h2⟩:=sv (P:=C.P) hr jY hx;refine⟨c,?_,h2⟩;simp only[xD,e2,asAddr,Sem.run_bind,Sem.run_pure,Result.andThen_ok];exact h1
   ·cases hx
 have many:∀l vs,vY C.P s l=some vs→∃cs:List Value,(l.mapM (xD a.tmps)).run C.P w=.ok cs w∧cs.length=vs.length∧∀(j:Nat)(h:j<vs.length)(h':j<cs.length),aZ L s.H.length s.T w (vs[j]'h) (cs[j]'h'):=by
  intro l
  induction l with
  |nil=>intro vs hv;cases hv;exact⟨[],rfl,rfl,fun j hj=>by simp at hj⟩
  |cons x r ih=>
   intro vs hv;simp only[vY] at hv
   split at hv
   ·rename_i v' vs' e1 e2
    cases hv
    obtain⟨cv,h1,h2⟩:=one x v' e1;obtain⟨cs,h3,h4,h5⟩:=ih vs' e2;refine⟨cv::cs,?_,by simp[h4],fun j hj bK=>?_⟩
    ·simp only[List.mapM_cons,Sem.run_bind,h1,Result.andThen_ok,h3,Sem.run_pure]
    ·cases j with
     |zero=>exact h2
     |succ j=>exact h5 j (by simpa using hj) (by simpa using bK)
   ·cases hv
 unfold Mq at h
 cases hl:vY C.P s fn.results.toList with
 |none=>rw[hl] at h;cases h
 |some vs=>
  rw[hl] at h;obtain⟨cs,h1,h2,h3⟩:=many _ _ hl;have cK:(results fn a.tmps).run C.P w=.ok (if h:cs.toArray.size=1 then cs.toArray[0] else .tuple cs.toArray) w:=by
   rw[C5,Array.mapM_eq_mapM_toList];simp only[Sem.run_bind,Sem.run_map,h1,Result.andThen_ok];rfl
  refine⟨_,cK,?_⟩
  match vs,cs,h2,h3,h with
  |[v'],[c],_,h3,h=>cases h;exact h3 0 (by simp) (by simp)
  |[],[],_,h3,h=>cases h;exact .cJ _ _ rfl (fun j hj=>by simp at hj)
  |v1::v2::vr,c1::c2::cr,h2,h3,h=>
   cases h
   rw[dif_neg (by simp)];exact .cJ _ _ (by simpa using h2) (fun j hj bK=>by simpa using h3 j hj (by simpa using bK))
def uo:Nat→List AV→Env
 |_,[]=>[]
 |k,v::r=>(k,v)::uo (k+1) r
theorem Dl:∀(l:List AV)(k t:Nat),bZ (uo k l) t=if h:k≤t∧t-k<l.length then l[t-k]'h.2 else .top:=by
 intro l
 induction l with
 |nil=>intro k t;simp[uo,bZ]
 |cons v r ih=>
  intro k t;simp only[uo,bZ]
  by_cases Q5:k=t
  ·subst Q5;simp
  ·rw[if_neg Q5,ih]
   by_cases h:k+1≤t∧t-(k+1)<r.length
   ·rw[dif_pos h,dif_pos (by simp;omega)];have:t-k=(t-(k+1))+1:=by omega
    simp[this]
   ·rw[dif_neg h,dif_neg (by simp;omega)]
def bM (H:List aG)(T:ay):Prop:=∀(i:Nat)(b:aG),H[i]?=some b→∀v∈b.xq,Below H.length T.length v
theorem aZ.toBelow {L:Lay}{N:Nat}{T:ay}{w:World}{v:AV}{c:Value}(h:aZ L N T w v c):Below N T.length v:=by
 have mem:∀{P:AV→Prop} {cs:List AV},(∀(j:Nat)(h:j<cs.length),P (cs[j]'h))→∀c∈cs,P c:=by
  intro P cs hp c hc;obtain⟨j,hj,e⟩:=List.mem_iff_getElem.1 hc;rw[←e];exact hp j hj
 have tag:∀{tg:Tag} {n u:Nat} {a:Option Addr} {cap:Nat},jr L T tg n u a cap→∀x,tg=.own x→x<T.length:=by
  intro tg n u a cap ht x e;subst e;obtain⟨u0,z,h0,_⟩:=ht;exact(List.getElem?_eq_some_iff.1 h0).1
 induction h with
 |top v=>exact .top
 |bool b=>exact .bool b
 |int k x=>exact .int k x
 |str s=>exact .str s
 |eO=>exact .eO
 |ptr i o h=>exact .ptr i o h
 |dI cs o b base f hm hc h1 hr ih=>exact .dI cs o (mem ih)
 |vR tg a cap ht=>exact .sl 0 [] tg (fun _ h=>by simp at h) (tag ht)
 |Lg m cs tg b base cap f bV hm hc h1 hr ht ih=>exact .sl m cs tg (mem ih) (tag ht)
 |cO i o m cap h bV=>exact .cO i o m h
 |dP i m cap h bV=>exact .dP i m cap h
 |aV i h=>exact .aV i h
 |fn f first eK fv cv h1 h2 HU o4 OZ OY=>exact .fn f first eK (mem fun j hj=>OZ j hj (by omega)) (mem fun j hj=>OY j hj (by omega))
 |gw=>exact .gw
 |kV=>exact .kV
 |xl t v=>exact .xl
 |agg cs cv h1 h2 hr ih=>exact .agg cs (mem fun j hj=>ih j hj (by omega))
 |cJ cs cv h1 hr ih=>exact .cJ cs (mem fun j hj=>ih j hj (by omega))
theorem bN.fC {L:Lay}{H:List aG}{T:ay}{w:World}(h:bN L H T w):bM H T:=by
 intro i b hi v hv;have hb:=h.box i _ hi
 cases b with
 |cells vs=>
  obtain⟨c,t,fr,_,_,h3,_,h4,_⟩:=hb;obtain⟨j,hj,e⟩:=List.mem_iff_getElem.1 (show v∈vs from hv);rw[←e];exact(h4 j hj (by omega)).toBelow
 |iter s pos=>simp at hv
 |map es=>
  obtain⟨dB,_,h2,h3,_⟩:=hb;obtain⟨x,hx,e⟩:=List.mem_map.1 hv;obtain⟨j,hj,e2⟩:=List.mem_iff_getElem.1 hx;rw[←e,←e2];exact(h3 j hj (by omega)).2.2.toBelow
 |kq m n seen=>simp at hv
 |FC g p=>simp at hv
theorem aj {P:Program}{f:FuncId}{fn:Func}{c:Code}{args:List AV}{H:List aG}{T:ay}{Q:AV→List aG→ay→Prop}(nv:Nat)(bx:List Nat){nt:Nat}(LR:fn.ntmps=nt)(hf:P.funcs[f]?=some fn)(hb:fn.body=some c)
  (y6:∀as w,(callFunc f as).run P w=.ok (.enter f as) w) (hn:args.length≤nt) (h:bM H T→AW ⟨P,nt,nv,H.length,T.length,bx⟩ c (rn P fn.results.toList Q) ⟨uo 0 args,H,T⟩):al P f args H T Q:=by
 subst LR;refine⟨y6,fun L w ca hc hl hr=>calls_of_wp hf hb ?_⟩;have dA:eR ⟨P,fn.ntmps,nv,H.length,T.length,bx⟩ ⟨uo 0 args,H,T⟩ L w { tmps:=ca++Array.replicate (fn.ntmps-ca.size) undef,defers:=[] }:=by
  refine⟨le_refl _,le_refl _,hc,by simp;omega,rfl,fun t=>?_⟩;rw[Dl]
  by_cases ht:0≤t∧t-0<args.length
  ·rw[dif_pos ht];have h2:t<ca.size:=by omega
   have e:(ca++Array.replicate (fn.ntmps-ca.size) undef).getD t undef=ca[t]:=by
    rw[Array.getD_eq_getD_getElem?,Array.getElem?_append_left h2,Array.getElem?_eq_getElem h2];rfl
   rw[e];exact hr t (by omega) h2
  ·rw[dif_neg ht];exact .top _
 refine wp_mono (h hc.fC L w _ dA) ?_;rintro e a' w' ⟨s',L',q,BW,dU⟩
 cases e<;>simp only[rn] at q
 case normal=>
  split at q
  ·rename_i v hv;obtain⟨cv,h1,h2⟩:=vh (C:=⟨P,fn.ntmps,nv,H.length,T.length,bx⟩) BW hv;exact⟨BW.defers,cv,h1,v,s'.H,s'.T,L',cv,q,rfl,BW.mN,h2,dU⟩
  ·exact q.elim
 case ret=>
  split at q
  ·rename_i v hv;obtain⟨cv,h1,h2⟩:=vh (C:=⟨P,fn.ntmps,nv,H.length,T.length,bx⟩) BW hv;exact⟨BW.defers,cv,h1,v,s'.H,s'.T,L',cv,q,rfl,BW.mN,h2,dU⟩
  ·exact q.elim
theorem ae {C:Cx}{id:Nat}{ops:List Oper}{y:Code}{Q:Exit→St→Prop}{s:St}
  (h:∀K:St→Prop,(∀s,AW C y Q s→K s)→gQ C ops.toArray K ops ⟨prune C.nv s.e,s.H,s.T⟩):AW C (.seq (.region id ops.toArray false) y) Q s:=
 xN fun K hK=>xf (h K hK)
theorem ar {C:Cx}{id:Nat}{ops:List Oper}{Q:Exit→St→Prop}{s:St}
  (h:∀K:St→Prop,(∀s,Q .normal s→K s)→gQ C ops.toArray K ops ⟨prune C.nv s.e,s.H,s.T⟩):AW C (.region id ops.toArray false) Q s:=
 (xf (Q:=Q) (h (fun s=>Q .normal s) fun _ h=>h)).mono fun e s q=>by cases e<;>exact q
theorem aP {C:Cx}{c:Operand}{x y:Code}{Q:Exit→St→Prop}{s:St}{t:Bool}(hc:bQ s.e c=.bool t)(h1:t=true→AW C x Q s)(h2:t=false→AW C y Q s):AW C (.cond c x y) Q s:=
 ND hc (by cases t<;>simp<;>first|exact h1 rfl|exact h2 rfl)
theorem aH {C:Cx}{c:Operand}{x y:Code}{Q:Exit→St→Prop}{s:St}(hc:bQ s.e c=.bool true)(h:AW C x Q s):AW C (.cond c x y) Q s:=aP hc (fun _=>h) (fun h=>absurd h (by simp))
theorem aC {C:Cx}{c:Operand}{x y:Code}{Q:Exit→St→Prop}{s:St}(hc:bQ s.e c=.bool false)(h:AW C y Q s):AW C (.cond c x y) Q s:=aP hc (fun h=>absurd h (by simp)) (fun _=>h)
theorem af {C:Cx}{x y:Code}{Q:Exit→St→Prop}{s:St}(h:∀K:St→Prop,(∀s,AW C y Q s→K s)→AW C x (eJ K Q) s):AW C (.seq x y) Q s:=xN h
theorem ah {C:Cx}{K:St→Prop}{dst:Option Tmp}{g:FuncId}{as:List AV}{s:St}{r:AV}{H':List aG}{T':ay}(h:al C.P g as s.H s.T (Is r H' T'))(k:kz C dst r s.e H' T' K):tP C K dst g as s:=
 ⟨_,h,fun _ _ _ ⟨e1,e2,e3⟩=>by subst e1;subst e2;subst e3;exact k⟩
@[simp] theorem wrap64 {x:Int} (h1:-9223372036854775808≤x) (h2:x≤9223372036854775807):IntKind.i64.wrap x=x:=by
 rw[IntKind.wrap_i64];omega
@[simp] theorem tz {x:Int} (h1:0≤x) (h2:x≤18446744073709551615):IntKind.u64.wrap x=x:=by
 show x % 18446744073709551616=x;exact Int.emod_eq_of_lt h1 (by omega)
@[simp] theorem Cm {x:Int} (h1:0≤x) (h2:x≤255):IntKind.u8.wrap x=x:=by
 show x % 256=x;exact Int.emod_eq_of_lt h1 (by omega)
def ints (xs:List Int):List AV:=xs.map (.int .i64)
def strs (xs:List (List UInt8)):List AV:=xs.map .str
section
variable {n t : Nat}
@[simp] theorem OR (xs:List Int):(ints xs).length=xs.length:=by simp[ints]
@[simp] theorem OQ (xs:List (List UInt8)):(strs xs).length=xs.length:=by simp[strs]
@[simp] theorem OS (xs:List UInt8):(bu xs).length=xs.length:=by simp[bu]
@[simp] theorem UF:ints []=[]:=rfl
@[simp] theorem Ur:strs []=[]:=rfl
@[simp] theorem UL:bu []=[]:=rfl
theorem Bl (a b:List Int):ints a++ints b=ints (a++b):=by simp[ints]
theorem dn (a b:List UInt8):bu a++bu b=bu (a++b):=by simp[bu]
theorem cN (a:List Int)(x:Int):ints a++[.int .i64 x]=ints (a++[x]):=by simp[ints]
theorem F3 (a:List (List UInt8))(x:List UInt8):strs a++[.str x]=strs (a++[x]):=by simp[strs]
theorem wY (a:List UInt8)(k:Nat):(bu a).drop k=bu (a.drop k):=by simp[bu]
theorem wX (a:List UInt8)(k:Nat):(bu a).take k=bu (a.take k):=by simp[bu]
@[simp] theorem Yq (x y:Int):(if y>x then y else x)=max x y:=by split<;>omega
theorem aT {xs:List Int}{k:Nat}(h:k<xs.length):(ints xs).getD k .top=.int .i64 (xs.getD k 0):=by
 simp[ints,h]
theorem rS {xs:List UInt8}{k:Nat}(h:k<xs.length):(bu xs).getD k .top=.int .u8 ((xs.getD k 0).toNat:Int):=by
 simp[bu,h]
def aL (n t:Nat)(cs:List AV):Prop:=∀c∈cs,Below n t c
@[simp] theorem Ru:Below n t .top:=.top
@[simp] theorem QV (b:Bool):Below n t (.bool b):=.bool b
@[simp] theorem RA (k:IntKind) (x:Int):Below n t (.int k x):=.int k x
@[simp] theorem Rv (s:List UInt8):Below n t (.str s):=.str s
@[simp] theorem Rx {i o:Nat}:Below n t (.ptr i o)↔i<n:=⟨fun h=>by cases h;assumption,fun h=>.ptr i o h⟩
@[simp] theorem Rz {i o m:Nat}:Below n t (.cO i o m)↔i<n:=⟨fun h=>by cases h;assumption,fun h=>.cO i o m h⟩
@[simp] theorem QT {i:Nat}:Below n t (.aV i)↔i<n:=⟨fun h=>by cases h;assumption,fun h=>.aV i h⟩
@[simp] theorem Ht {i m cap:Nat}:Below n t (.dP i m cap)↔i<n:=⟨fun h=>by cases h;assumption,fun h=>.dP i m cap h⟩
@[simp] theorem RB {cs:List AV}:Below n t (.agg cs)↔aL n t cs:=⟨fun h=>by cases h;assumption,fun h=>.agg cs h⟩
@[simp] theorem Rt {cs:List AV}:Below n t (.cJ cs)↔aL n t cs:=⟨fun h=>by cases h;assumption,fun h=>.cJ cs h⟩
@[simp] theorem LC {m:Nat} {cs:List AV}:Below n t (.sl m cs .none)↔aL n t cs:=⟨fun h=>by cases h;assumption,fun h=>.sl m cs .none h (fun x e=>by cases e)⟩
@[simp] theorem LD {m:Nat} {cs:List AV}:Below n t (.sl m cs .full)↔aL n t cs:=⟨fun h=>by cases h;assumption,fun h=>.sl m cs .full h (fun x e=>by cases e)⟩
@[simp] theorem NH {m k:Nat} {cs:List AV}:Below n t (.sl m cs (.own k))↔aL n t cs∧k<t:=
 ⟨fun h=>by cases h with|sl _ _ _ h1 h2=>exact⟨h1,h2 k rfl⟩,fun h=>.sl m cs (.own k) h.1 (fun x e=>by cases e;exact h.2)⟩
@[simp] theorem WE {f:FuncId} {a b:List AV}:Below n t (.fn f a b)↔aL n t a∧aL n t b:=⟨fun h=>by cases h;exact⟨‹_›,‹_›⟩,fun h=>.fn f a b h.1 h.2⟩
@[simp] theorem QU {xs:List Int}:aL n t (ints xs):=by
 intro c hc;simp only[ints,mem_map] at hc;obtain⟨x,_,rfl⟩:=hc;exact .int _ _
@[simp] theorem QS {xs:List (List UInt8)}:aL n t (strs xs):=by
 intro c hc;simp only[strs,mem_map] at hc;obtain⟨x,_,rfl⟩:=hc;exact .str _
@[simp] theorem Dx {xs:List UInt8}:aL n t (bu xs):=by
 intro c hc;simp only[bu,mem_map] at hc;obtain⟨x,_,rfl⟩:=hc;exact .int _ _
end
@[simp] theorem NJ {n t:Nat}:aL n t []:=fun _ h=>by simp at h
@[simp] theorem LF {n t:Nat} {c:AV} {cs:List AV}:aL n t (c::cs)↔Below n t c∧aL n t cs:=by simp[aL]
@[simp] theorem HK {n t:Nat} {a b:List AV}:aL n t (a++b)↔aL n t a∧aL n t b:=by
 simp only[aL,List.mem_append];exact⟨fun h=>⟨fun c hc=>h c (.inl hc),fun c hc=>h c (.inr hc)⟩,fun h c hc=>hc.elim (h.1 c) (h.2 c)⟩
@[simp] theorem NI {n t k:Nat} {c:AV} (h:Below n t c):aL n t (List.replicate k c):=fun x hx=>by rw[List.eq_of_mem_replicate hx];exact h
theorem aL.set {n t k:Nat}{c:AV}{cs:List AV}(h:aL n t cs)(hc:Below n t c):aL n t (cs.set k c):=fun x hx=>by
 rcases List.mem_or_eq_of_mem_set hx with h1|h1
 ·exact h x h1
 ·rw[h1];exact hc
def b9 (n t:Nat)(e:Env):Env→Prop
 |[]=>True
 |(s,v)::r=>(v=bZ e s∨v=cC (bZ e s))∧Below n t v∧b9 n t e r
theorem G7 {n t:Nat}{e:Env}:∀{e':Env},b9 n t e e'→∀s,bZ e' s=.top∨((bZ e' s=bZ e s∨bZ e' s=cC (bZ e s))∧Below n t (bZ e' s)):=by
 intro e'
 induction e' with
 |nil=>intro _ s;exact .inl rfl
 |cons x r ih=>
  obtain⟨s0,v⟩:=x;intro h s
  by_cases hs:s0=s
  ·subst hs;simp only[bZ,if_true];exact .inr ⟨h.1,h.2.1⟩
  ·simp only[bZ,if_neg hs];exact ih h.2.2 s
@[simp] theorem Zi {e:Env} {t:Tmp}:bQ e (.tmp t)=bZ e t:=rfl
@[simp] theorem RE {e:Env} {v:Value}:bQ e (.const v)=LI v:=rfl
@[simp] theorem WJ {e:Env} {f:FuncId}:bQ e (.func f)=.fn f [] []:=rfl
def Xl:AV→Option (Option Bool)
 |.bool b=>some (some b)
 |.cJ []=>some none
 |_=>none
def Xk (e:Env):Option Tmp→Option (Option Bool)
 |some d=>Xl (bZ e d)
 |none=>none
@[simp] theorem Yr {all:Array Oper} {j:Nat} {e:Env}:jD all j e=Xk e ((all[j]?).bind (·.dst)):=by
 unfold jD Xk
 cases (all[j]?).bind (·.dst) with
 |none=>rfl
 |some d=>
  simp only;generalize bZ e d=x
  cases x<;>first|rfl|(rename_i cs;cases cs<;>rfl)
@[simp] theorem UG {e:Env} {d:Tmp}:Xk e (some d)=Xl (bZ e d):=rfl
@[simp] theorem UH {e:Env}:Xk e none=none:=rfl
@[simp] theorem UJ {b:Bool}:Xl (.bool b)=some (some b):=rfl
@[simp] theorem UI:Xl (.cJ [])=some none:=rfl
section
variable {C : Cx} {all : Array Oper} {K : St → Prop} {o : Oper} {r : List Oper} {e : Env} {H : List aG} {T : ay}
@[simp] theorem WI:gQ C all K [] ⟨e,H,T⟩=K ⟨e,H,T⟩:=rfl
@[simp] theorem RD:gQ C all K (o::r) ⟨e,H,T⟩=(
  let exec:Prop:=match fQ o e with
   |some (g,as)=>tP C (gQ C all K r) o.dst g as ⟨e,H,T⟩
   |none=>match FH C.P o e with
    |some (n,q)=>∀b:Bool,(0<n→b=!q)→kz C o.dst (.bool b) e H T (gQ C all K r)
    |none=>match FJ C.P C.bx o e H with
     |some (m,ys)=>∀k:Nat,kz C o.dst (.cO H.length 0 m) e (H++[.cells (ys++List.replicate k .top)]) T (gQ C all K r)
     |none=>match lB C.P C.bx o e H with
      |some (m,ys,z)=>∀nc:Nat,m≤nc→kz C o.dst (.dP H.length m nc) e (H++[.cells (ys++List.replicate ((nc-m)*z) .top)]) T (gQ C all K r)
      |none=>match s8 o e with
       |some (t,t2,i,n,cap,x)=>P8 C (gQ C all K r) o.dst t t2 i n cap x e H T
       |none=>match uD o e H with
        |some (i,m,n,seen,es)=>D8 C (gQ C all K r) o.dst i m n seen es e H T
        |none=>match Fm C.P o e H T with
         |some (v,H',T')=>kz C o.dst v e H' T' (gQ C all K r)
         |none=>False
  match o.guard with
  |none=>exec
  |some (j,want)=>match jD all j e with
   |some b=>if b=some want then exec else kz C o.dst (.cJ []) e H T (gQ C all K r)
   |none=>False):=rfl
end
attribute [simp] D4 uF FH fQ uD Fm prune uo kz LI vC mT bZ D5 Mt Ms Mp Xr ry oZ iv Iy Po xM cC mC so mB xP xR eT xO kG PG
 xS nE setMany kR lS qp ji xU Mr SQ FI qG FJ s8 lB mu D7 D6 nP nJ Mq vY D3 rn eJ CB yp Hz b9
section
variable {P : Program}
theorem vQ {o:Oper}{e e':Env}(h:∀x∈o.op.operands,bQ e x=bQ e' x):fQ o e=fQ o e':=by
 unfold fQ
 cases ho:o.op<;>try rfl
 rename_i c;rw[ho] at h;obtain⟨callee,args,B6⟩:=c
 cases callee<;>try rfl
 rename_i f;have h1:=h f (by simp[Op.operands,Call.operands]);have h2:args.toList.map (bQ e)=args.toList.map (bQ e'):=map_congr_left fun x hx=>h x (by simp only[Op.operands,Call.operands];exact Array.mem_append.2 (.inr (Array.mem_toList_iff.1 hx)));simp only[h1,h2]
theorem Hx {o:Oper}{e e':Env}(H:List aG)(T:ay)(h:∀x∈o.op.operands,bQ e x=bQ e' x):Fm P o e H T=Fm P o e' H T:=by
 have qN:∀(ps:Array (Nat×Operand)),(∀x∈(ps.toList.map (·.2)).toArray,bQ e x=bQ e' x)→ps.toList.map (fun(x:Nat×Operand)=>(x.1,bQ e x.2))=ps.toList.map (fun(x:Nat×Operand)=>(x.1,bQ e' x.2)):=by
  intro ps hp;refine map_congr_left fun x hx=>?_;rw[hp x.2 (by simp;exact⟨x.1,Array.mem_toList_iff.1 hx⟩)]
 have Ca:∀(q:Option Operand),(∀x∈q.toArray,bQ e x=bQ e' x)→q.map (bQ e)=q.map (bQ e'):=by
  intro q hq
  cases q with
  |none=>rfl
  |some x=>simp only[Option.map_some];rw[hq x (by simp)]
 unfold Fm
 cases ho:o.op<;>rw[ho] at h<;>(try simp only[Op.operands] at h)<;>try rfl
 case next x s=>
  have h0:=h x (by simp)
  cases s
  ·rfl
  ·simp only[h0]
 case makeMap t r=>cases r<;>rfl
 case build t ps=>simp only[qN ps h]
 case buildSlice t n ps=>simp only[qN ps h]
 case makeFunc fn first eK=>
  cases fn<;>try rfl
  have h1:first.toList.map (bQ e)=first.toList.map (bQ e'):=map_congr_left fun x hx=>h x (Array.mem_append.2 (.inl (Array.mem_toList_iff.1 hx)));have h2:eK.toList.map (bQ e)=eK.toList.map (bQ e'):=map_congr_left fun x hx=>h x (Array.mem_append.2 (.inr (Array.mem_toList_iff.1 hx)));simp only[h1,h2]
 case slice t x lo hi mx=>
  have h1:=Ca lo (fun y hy=>h y (by simp only[Array.mem_append];exact .inl (.inl (.inr hy))));have h2:=Ca hi (fun y hy=>h y (by simp only[Array.mem_append];exact .inl (.inr hy)));have h3:=Ca mx (fun y hy=>h y (by simp only[Array.mem_append];exact .inr hy));have h0:=h x (by simp);simp only[h0,h1,h2,h3]
 case call c=>
  obtain⟨callee,args,B6⟩:=c
  cases callee<;>try rfl
  have h2:args.toList.map (bQ e)=args.toList.map (bQ e'):=map_congr_left fun x hx=>h x (by simp only[Call.operands];exact Array.mem_append.2 (.inr (Array.mem_toList_iff.1 hx)));simp only[h2]
 all_goals (simp only[List.mem_toArray,List.mem_cons,List.not_mem_nil,or_false,forall_eq_or_imp,forall_eq] at h)
 all_goals first
  |simp only[h]
  |(obtain⟨h1,h2⟩:=h;simp only[h1,h2])
  |(obtain⟨h1,h2,h3⟩:=h;simp only[h1,h2,h3])
def eI (P:Program)(o:Oper)(e:Env)(H:List aG)(T:ay)(v:AV)(H':List aG)(T':ay):Prop:=
 match fQ o e with
 |some (g,as)=>al P g as H T (Is v H' T')
 |none=>Fm P o e H T=some (v,H',T')
theorem sJ {o:Oper}{e e':Env}{H H':List aG}{T T':ay}{v:AV}(h:∀x∈o.op.operands,bQ e x=bQ e' x)(k:eI P o e H T v H' T'):eI P o e' H T v H' T':=by
 unfold eI at k ⊢;rw[←vQ h,←Hx H T h];exact k
theorem AK {o:Oper}{e:Env}{H H':List aG}{T T':ay}{v:AV}(k:eI P o e H T v H' T'){L:Lay}{w:World}{a:Act}(hc:bN L H T w)(he:eV L H.length T w e a){K:Act→World→Prop}{Q:Exit→Act→World→Prop}
  (hk:∀cv w' L',bN L' H' T' w'→aZ L' H'.length T' w' v cv→Ev H.length T.length L H.length T w L' H'.length T' w'→K (a.put o.dst cv) w'):o.wp P a w K Q:=by
 unfold eI at k
 split at k
 ·rename_i g as jg;obtain⟨y6,hq⟩:=k;unfold fQ at jg
  split at jg
  ·rename_i f args B6 oL
   split at jg
   ·rename_i g' first eK hf
    cases jg
    have E7:=he.bQ f;rw[hf] at E7;generalize ZZ:a.eval f=fv at E7
    cases E7 with
    |fn _ _ _ fa ca h1 h2 HU o4=>
     have cK:(execOp a.eval o).run P w=.ok (.enter g (fa++args.map a.eval++ca)) w:=by
      simp only[execOp,oL,resolve,ZZ,Deferred.ofValue,Sem.run_bind,Sem.run_pure,Result.andThen_ok,invoke,y6]
     unfold Oper.wp;rw[cK,Oper.upon_enter];have fy:yT L H.length T w (first++args.toList.map (bQ e)++eK) (fa++args.map a.eval++ca).toList:=by
      simp only[Array.toList_append,Array.toList_map];refine(yT.append ⟨by simpa using h1,fun j hj bK=>by simpa using HU j hj (by simpa using bK)⟩ ⟨by simp,fun j hj bK=>?_⟩).append ⟨by simpa using h2,fun j hj bK=>by simpa using o4 j hj (by simpa using bK)⟩;simp only[getElem_map];exact he.bQ _
     refine(hq L w _ hc (by simpa using fy.1) (fun j hj bK=>by
      have h3:=fy.2 j hj (by rw[Array.length_toList];exact bK)
      rwa [Array.getElem_toList] at h3)).mono ?_
     rintro en w' ⟨rr,H2,T2,L',cv,⟨e1,e2,e3⟩,rfl,cQ,dF,dU⟩;subst e1;subst e2;subst e3;exact hk cv w' L' cQ dF dU
   ·cases jg
  ·cases jg
 ·obtain⟨n,cv,w',L',cK,hn,cQ,dF,dU⟩:=xh hc he k;unfold Oper.wp;rw[cK];have fin:=hk cv w' L' cQ dF dU;rcases hn with rfl|⟨rfl,rfl⟩
  ·exact fin
  ·exact fin
end
structure dg where
 o:Oper
 e:Env
 run:Bool
 v:AV
 k:Nat
 bw:Bool
abbrev oV:=List aG×ay×Nat
def eP:List Oper→List Nat→List Nat
 |[],acc=>acc
 |o::r,acc=>eP r (acc++[o.after.foldl (fun s e=>if Region.binds .any e then s ||| 2 ^ e.on ||| acc.getD e.on 0 else s) 0])
def l9 (A:List Nat)(j i:Nat):Bool:=(A.getD i 0).testBit j
def D1 (A:List Nat)(bw:List Nat)(i:Nat):Nat:=(bw.filter fun e=>l9 A e i).length
def jl (ops : List Oper) (bw : List Nat) (lo : List Nat) (na : List (List Nat)) : Bool :=
  let A := eP ops []
  let n := ops.length
  ((List.range n).all fun i => (List.range n).all fun j => i == j || (match (ops.getD i default).dst, (ops.getD j default).dst with | some d, some d' => d != d' | _, _ => true)) &&
  ((List.range n).all fun i => ((ops.getD i default).looksAt ops.toArray).all fun t => (List.range n).all fun j => i == j || (ops.getD j default).dst != some t || (j < i && l9 A j i) || (i < j && l9 A i j)) &&
  ((List.range n).all fun i => ((ops.getD i default).looksAt ops.toArray).all fun t => (ops.getD i default).dst != some t) &&
  ((List.range bw.length).all fun k => k == 0 || l9 A (bw.getD (k - 1) 0) (bw.getD k 0)) && (bw.all fun e => e < n) && (List.range bw.length).all (fun k => k == 0 || bw.getD (k - 1) 0 < bw.getD k 0) &&
  ((List.range n).all fun i => lo.getD i 0 ≤ D1 A bw i) &&
  ((List.range bw.length).all fun k => (List.range (bw.getD k 0)).all fun j => bw.contains j || (na.getD k []).contains j || l9 A j (bw.getD k 0)) &&
  ((List.range n).all fun i => (ops.getD i default).after.all fun e => !Region.binds .any e || e.on < i) && Region.noSelect ops.toArray
def Mk (P:Program)(o:Oper)(e:Env)(v:AV):List oV→Prop
 |[]=>True
 |(H,T,_)::r=>eI P o e H T v H T∧Mk P o e v r
def Mc (P:Program)(aN:List dg)(H:List aG)(T:ay):List Nat→Prop
 |[]=>True
 |j::r=>(match aN[j]? with
  |some x=>x.run=true→x.bw=false→eI P x.o x.e H T x.v H T
  |none=>True)∧Mc P aN H T r
def Fq (nt:Nat)(dst:Option Tmp)(v:AV)(e:Env)(k:Env→Prop):Prop:=
 match dst with
 |some d=>d<nt∧k (mT e d v)
 |none=>k e
structure tu where
 C:Cx
 all:Array Oper
 bw:List Nat
 lo:List Nat
 na:List (List Nat)
 K:St→Prop
def vB (D:tu)(next:List dg→List oV→Env→Prop)(o:Oper)(aN:List dg)(sts:List oV)(e:Env)(run:Bool)(v:AV)(H':List aG)(T':ay):Prop:=
 if D.bw.contains aN.length then
  Mc D.C.P aN H' T' (D.na.getD (sts.length-1) [])∧Fq D.C.nt o.dst v e (next (aN++[⟨o,e,run,v,sts.length-1,true⟩]) (sts++[(H',T',aN.length)]))
 else
  (run=true→Mk D.C.P o e v ((sts.drop (D.lo.getD aN.length 0)).dropLast))∧Fq D.C.nt o.dst v e (next (aN++[⟨o,e,run,v,sts.length-1,false⟩]) sts)
def IX (D:tu)(next:List dg→List oV→Env→Prop)(o:Oper)(aN:List dg)(sts:List oV)(e:Env)(g:FuncId)(as:List AV)(H:List aG)(T:ay):Prop:=
 ∃v H' T',al D.C.P g as H T (Is v H' T')∧(D.bw.contains aN.length=false→H'=H∧T'=T)∧vB D next o aN sts e true v H' T'
def j5 (D:tu)(next:List dg→List oV→Env→Prop)(o:Oper)(aN:List dg)(sts:List oV)(e:Env)(H:List aG)(T:ay):Prop:=
 match fQ o e with
 |some (g,as)=>IX D next o aN sts e g as H T
 |none=>match Fm D.C.P o e H T with
  |some (v,H',T')=>(D.bw.contains aN.length=false→H'=H∧T'=T)∧vB D next o aN sts e true v H' T'
  |none=>False
def eD (D:tu):List Oper→List dg→List oV→Env→Prop
 |[],_,sts,e=>match sts.getLast? with
  |some (H,T,_)=>D.K ⟨e,H,T⟩
  |none=>False
 |o::r,aN,sts,e=>match sts.getLast? with
  |some (H,T,_)=>match o.guard with
   |none=>j5 D (eD D r) o aN sts e H T
   |some (j,want)=>match jD D.all j e with
    |some b=>if b=some want then j5 D (eD D r) o aN sts e H T else vB D (eD D r) o aN sts e false (.cJ []) H T
    |none=>False
  |none=>False
structure Uf (D:tu)(ops:List Oper)(sts:List oV)(aN:List dg)(i:Nat)(x:dg):Prop where
 o:ops[i]?=some x.o
 k:x.k<sts.length
 bw:x.bw=D.bw.contains i
 gate:match x.o.guard with
  |none=>x.run=true
  |some (j,want)=>∃b,jD D.all j x.e=some b∧x.run=(b==some want)
 dst:∀d,x.o.dst=some d→d<D.C.nt
 skip:x.run=false→x.v=.cJ []
 still:x.run=true→x.bw=false→∀k H T e,sts[k]?=some (H,T,e)→D.lo.getD i 0≤k→(k≤x.k∨(D.na.getD (k-1) []).contains i=true)→eI D.C.P x.o x.e H T x.v H T
 effect:x.bw=true→∃H T e H' T',sts[x.k]?=some (H,T,e)∧sts[x.k+1]?=some (H',T',i)∧(x.run=true→eI D.C.P x.o x.e H T x.v H' T')∧(x.run=false→H'=H∧T'=T)
def IQ (dst:Option Tmp)(e:Env)(v:AV):Env:=
 match dst with
 |some d=>mT e d v
 |none=>e
def xQ (e:Env)(x:dg):Env:=IQ x.o.dst e x.v
def bt:Env→List dg→Env
 |e,[]=>e
 |e,x::r=>bt (xQ e x) r
theorem iM (l:List dg):∀(e:Env)(x:dg),bt e (l++[x])=xQ (bt e l) x:=by
 induction l with
 |nil=>intro e x;rfl
 |cons y r ih=>intro e x;exact ih _ x
theorem sF (e:Env)(x:dg)(t:Nat):bZ (xQ e x) t=if x.o.dst=some t then x.v else bZ e t:=by
 unfold xQ IQ
 split
 ·rename_i d hd
  by_cases h:d=t
  ·subst h;simp[hd,kn]
  ·rw[jq _ _ _ _ h,if_neg (by rw[hd];intro e;exact h (by injection e))]
 ·rename_i hd;simp[hd]
theorem dO:∀(l:List dg)(e:Env)(t:Nat),(∀x∈l,x.o.dst≠some t)→bZ (bt e l) t=bZ e t:=by
 intro l
 induction l with
 |nil=>intro e t _;rfl
 |cons x r ih=>
  intro e t h;rw[bt,ih _ _ (fun y hy=>h y (by simp[hy])),sF,if_neg (h x (by simp))]
theorem eY:∀(l:List dg)(e:Env)(t j:Nat)(x:dg),l[j]?=some x→x.o.dst=some t→(∀i y,l[i]?=some y→y.o.dst=some t→i=j)→bZ (bt e l) t=x.v:=by
 intro l
 induction l with
 |nil=>intro e t j x h;simp at h
 |cons y r ih=>
  intro e t j x h hd hu;rw[bt]
  cases j with
  |zero=>
   simp at h;subst h;rw[dO r _ t (fun z hz HR=>by
    obtain⟨i,hi,e1⟩:=List.mem_iff_getElem.1 hz;have:=hu (i+1) z (by simp[←e1,hi]) HR;omega),sF,if_pos hd]
  |succ j=>
   exact ih _ t j x (by simpa using h) hd (fun i z hi hz=>by have:=hu (i+1) z (by simpa using hi) hz;omega)
structure Tu (D:tu)(aN:List dg)(sts:List oV):Prop where
 len:sts.length=1+(D.bw.filter (·<aN.length)).length
 k:∀(i:Nat)(x:dg),aN[i]?=some x→x.k=(D.bw.filter (·<i)).length
theorem mJ {bw:List Nat}{i:Nat}(h:bw.contains i=false):(bw.filter (·<i+1)).length=(bw.filter (·<i)).length:=by
 congr 1
 apply List.filter_congr;intro x hx;have:x≠i:=by rintro rfl;simp at h;exact h hx
 simp;omega
def jx (bw:List Nat):Bool:=(List.range bw.length).all fun k=>(bw.filter (·<bw.getD k 0)).length==k&&(bw.filter (·<bw.getD k 0+1)).length==k+1
theorem iy {bw:List Nat}(h:jx bw=true){i:Nat}(hi:bw.contains i=true):bw[(bw.filter (·<i)).length]?=some i∧(bw.filter (·<i+1)).length=(bw.filter (·<i)).length+1:=by
 simp only[List.contains_iff_mem] at hi;obtain⟨k,hk,e⟩:=List.mem_iff_getElem.1 hi;have:=List.all_eq_true.1 h k (List.mem_range.2 hk);simp only[Bool.and_eq_true,beq_iff_eq,getD_eq_getElem?_getD,getElem?_eq_getElem hk,Option.getD_some,e] at this;rw[this.1];exact⟨by rw[getElem?_eq_getElem hk,e],this.2⟩
theorem wL {P:Program}{aN:List dg}{H:List aG}{T:ay}:∀{l:List Nat},Mc P aN H T l→∀j,l.contains j=true→∀x,aN[j]?=some x→x.run=true→x.bw=false→eI P x.o x.e H T x.v H T:=by
 intro l
 induction l with
 |nil=>intro _ j hj;simp at hj
 |cons y r ih=>
  intro h j hj x hx h1 h2;obtain⟨g1,g2⟩:=h
  by_cases hy:j=y
  ·subst hy;rw[hx] at g1;exact g1 h1 h2
  ·exact ih g2 j (by simp only[List.contains_cons] at hj;simpa[hy] using hj) x hx h1 h2
theorem wU {P:Program}{o:Oper}{e:Env}{v:AV}:∀{l:List oV},Mk P o e v l→∀(j:Nat)(st:oV),l[j]?=some st→eI P o e st.1 st.2.1 v st.1 st.2.1:=by
 intro l
 induction l with
 |nil=>intro _ j st h;simp at h
 |cons y r ih=>
  obtain⟨H,T,i⟩:=y;intro h j st hj
  cases j with
  |zero=>simp at hj;subst hj;exact h.1
  |succ j=>exact ih h.2 j st (by simpa using hj)
structure rz (D:tu)(ops:List Oper)(e0:Env)(aN:List dg)(sts:List oV)(e:Env):Prop where
 st:Tu D aN sts
 EU:∀(i:Nat)(x:dg),aN[i]?=some x→Uf D ops sts aN i x
 yP:∀(i:Nat)(x:dg),aN[i]?=some x→x.e=bt e0 (aN.take i)
 cur:e=bt e0 aN
theorem oj {nt:Nat}{dst:Option Tmp}{v:AV}{e:Env}{k:Env→Prop}(h:Fq nt dst v e k):(∀d,dst=some d→d<nt)∧k (IQ dst e v):=by
 cases dst with
 |none=>exact⟨fun d e=>(by cases e),h⟩
 |some d=>exact⟨fun d' e=>(by cases e;exact h.1),h.2⟩
theorem KQ {D:tu}{ops:List Oper}{e0:Env}{aN:List dg}{sts:List oV}{e:Env}{next:List dg→List oV→Env→Prop}{o:Oper}{run:Bool}{v:AV}{H H':List aG}{T T':ay}{i0:Nat}(pM:jx D.bw=true)
  (hw:rz D ops e0 aN sts e) (tX:ops[aN.length]?=some o) (cT:sts.getLast?=some (H,T,i0))
  (hgate:match o.guard with|none=>run=true|some (j,want)=>∃b,jD D.all j e=some b∧run=(b==some want)) (uj:run=false→v=.cJ []∧H'=H∧T'=T) (cK:run=true→eI D.C.P o e H T v H' T')
  (Ct:D.bw.contains aN.length=false→H'=H∧T'=T) (h:vB D next o aN sts e run v H' T') :
  ∃bB dq e',rz D ops e0 bB dq e'∧bB.length=aN.length+1∧next bB dq e'∧dq[0]?=sts[0]?∧dq≠[]:=by
 have dW:sts≠[]:=by intro e;rw[e] at cT;cases cT
 have kE:0<sts.length:=List.length_pos_iff.2 dW;have gR:sts[sts.length-1]?=some (H,T,i0):=by rw[←cT,List.getLast?_eq_getElem?]
 have hlen:=hw.st.len;unfold vB at h
 split at h
 ·rename_i me;obtain⟨ZM,jf⟩:=h;obtain⟨oS,um⟩:=oj jf;obtain⟨ek,es⟩:=iy pM me;refine⟨_,_,_,⟨⟨?_,fun i x hx=>?_⟩,fun i x hx=>?_,fun i x hx=>?_,?_⟩,by simp,um,by rw[getElem?_append_left kE],by simp⟩
  ·simp only[length_append,length_singleton,hlen];rw[es];omega
  ·rcases lt_or_ge i aN.length with hi|hi
   ·rw[getElem?_append_left hi] at hx;exact hw.st.k i x hx
   ·have et:i=aN.length:=by have:=(List.getElem?_eq_some_iff.1 hx).1;simp at this;omega
    subst et;simp at hx;subst hx;simp;omega
  ·rcases lt_or_ge i aN.length with hi|hi
   ·rw[getElem?_append_left hi] at hx;have hr:=hw.EU i x hx;refine⟨hr.o,by simp;have:=hr.k;omega,hr.bw,hr.gate,hr.dst,hr.skip,fun h1 h2 k H2 T2 e2 hk sK o5=>?_,fun h1=>?_⟩
    ·rcases lt_or_ge k sts.length with lW|lW
     ·rw[getElem?_append_left lW] at hk;exact hr.still h1 h2 k H2 T2 e2 hk sK o5
     ·have mL:k=sts.length:=by have:=(List.getElem?_eq_some_iff.1 hk).1;simp at this;omega
      subst mL;simp at hk;obtain⟨rfl,rfl,rfl⟩:=hk;rcases o5 with o5|o5
      ·have:=hr.k;omega
      ·exact wL ZM i o5 x hx h1 h2
    ·obtain⟨Ha,Ta,ea,Hb,Tb,g1,g2,g3,g4⟩:=hr.effect h1;have l1:=(List.getElem?_eq_some_iff.1 g1).1;have l2:=(List.getElem?_eq_some_iff.1 g2).1;exact⟨Ha,Ta,ea,Hb,Tb,by rw[getElem?_append_left l1];exact g1,by rw[getElem?_append_left l2];exact g2,g3,g4⟩
   ·have et:i=aN.length:=by have:=(List.getElem?_eq_some_iff.1 hx).1;simp at this;omega
    subst et;simp at hx;subst hx;refine⟨tX,(by rw[length_append,length_singleton];exact(by omega:sts.length-1<sts.length+1)),me.symm,hgate,oS,fun hr=>(uj hr).1,fun _ h2=>(by cases h2),fun _=>⟨H,T,i0,H',T',by show (sts++[_])[sts.length-1]?=_;rw[getElem?_append_left (by omega)];exact gR,?_,cK,fun hr=>(uj hr).2⟩⟩;show (sts++[_])[sts.length-1+1]?=_;rw[show sts.length-1+1=sts.length by omega];simp
  ·rcases lt_or_ge i aN.length with hi|hi
   ·rw[getElem?_append_left hi] at hx;rw[List.take_append_of_le_length (by omega)];exact hw.yP i x hx
   ·have et:i=aN.length:=by have:=(List.getElem?_eq_some_iff.1 hx).1;simp at this;omega
    subst et;simp at hx;subst hx;rw[List.take_append_of_le_length (le_refl _),take_length];exact hw.cur
  ·rw[iM,←hw.cur];rfl
 ·rename_i me;simp only[Bool.not_eq_true] at me;obtain⟨hex,jf⟩:=h;obtain⟨oS,um⟩:=oj jf;obtain⟨rfl,rfl⟩:=Ct me;refine⟨_,_,_,⟨⟨?_,fun i x hx=>?_⟩,fun i x hx=>?_,fun i x hx=>?_,?_⟩,by simp,um,rfl,dW⟩
  ·simp only[length_append,length_singleton,hlen];rw[mJ me]
  ·rcases lt_or_ge i aN.length with hi|hi
   ·rw[getElem?_append_left hi] at hx;exact hw.st.k i x hx
   ·have et:i=aN.length:=by have:=(List.getElem?_eq_some_iff.1 hx).1;simp at this;omega
    subst et;simp at hx;subst hx;simp;omega
  ·rcases lt_or_ge i aN.length with hi|hi
   ·rw[getElem?_append_left hi] at hx;have hr:=hw.EU i x hx;exact⟨hr.o,hr.k,hr.bw,hr.gate,hr.dst,hr.skip,hr.still,hr.effect⟩
   ·have et:i=aN.length:=by have:=(List.getElem?_eq_some_iff.1 hx).1;simp at this;omega
    subst et;simp at hx;subst hx;refine⟨tX,(by exact(by omega:sts.length-1<sts.length)),me.symm,hgate,oS,fun hr=>(uj hr).1,fun h1 _ k H2 T2 e2 hk sK o5=>?_,fun h=>(by cases h)⟩;simp only at hk sK o5 h1 ⊢;have lW:=(List.getElem?_eq_some_iff.1 hk).1;rcases lt_or_ge k (sts.length-1) with bh|ku
    ·have da:((sts.drop (D.lo.getD aN.length 0)).dropLast)[k-D.lo.getD aN.length 0]?=some (H2,T2,e2):=by
      rw[List.getElem?_dropLast,if_pos (by rw[List.length_drop];omega),List.getElem?_drop,show D.lo.getD aN.length 0+(k-D.lo.getD aN.length 0)=k by omega];exact hk
     exact wU (hex h1) _ _ da
    ·have mL:k=sts.length-1:=by omega
     subst mL;rw[gR] at hk
     cases hk
     exact cK h1
  ·rcases lt_or_ge i aN.length with hi|hi
   ·rw[getElem?_append_left hi] at hx;rw[List.take_append_of_le_length (by omega)];exact hw.yP i x hx
   ·have et:i=aN.length:=by have:=(List.getElem?_eq_some_iff.1 hx).1;simp at this;omega
    subst et;simp at hx;subst hx;rw[List.take_append_of_le_length (le_refl _),take_length];exact hw.cur
  ·rw[iM,←hw.cur];rfl
theorem DC {D:tu}{ops:List Oper}{e0:Env}(pM:jx D.bw=true):∀(l:List Oper)(aN:List dg)(sts:List oV)(e:Env),rz D ops e0 aN sts e→ops.drop aN.length=l→aN.length≤ops.length→eD D l aN sts e→
  ∃bB dq H T i,rz D ops e0 bB dq (bt e0 bB)∧bB.length=ops.length∧dq.getLast?=some (H,T,i)∧D.K ⟨bt e0 bB,H,T⟩∧dq[0]?=sts[0]?:=by
 intro l
 induction l with
 |nil=>
  intro aN sts e hw hl hle h;unfold eD at h
  split at h
  ·rename_i H T i cT;have hlen:aN.length=ops.length:=by
    have:=congrArg List.length hl;simp at this;omega
   have hc:=hw.cur;subst hc;exact⟨aN,sts,H,T,i,hw,hlen,cT,h,rfl⟩
  ·exact h.elim
 |cons o r ih=>
  intro aN sts e hw hl hle h;have bh:aN.length<ops.length:=by
   have:=congrArg List.length hl;simp at this;omega
  have tX:ops[aN.length]?=some o:=by
   have:=congrArg (fun l=>l[0]?) hl;simpa using this
  have sn:ops.drop (aN.length+1)=r:=by
   have:=congrArg (fun l=>l.drop 1) hl;simpa[List.drop_drop,Nat.add_comm] using this
  have fin:∀{H T i0 run v H' T'},sts.getLast?=some (H,T,i0)→(match o.guard with|none=>run=true|some (j,want)=>∃b,jD D.all j e=some b∧run=(b==some want))→(run=false→v=.cJ []∧H'=H∧T'=T)→(run=true→eI D.C.P o e H T v H' T')→
    (D.bw.contains aN.length=false→H'=H∧T'=T)→vB D (eD D r) o aN sts e run v H' T'→∃bB dq H T i,rz D ops e0 bB dq (bt e0 bB)∧bB.length=ops.length∧dq.getLast?=some (H,T,i)∧D.K ⟨bt e0 bB,H,T⟩∧dq[0]?=sts[0]?:=by
   intro H T i0 run v H' T' cT hg h1 h2 h3 h4;obtain⟨bB,dq,e',g1,g2,g3,g4,_⟩:=KQ pM hw tX cT hg h1 h2 h3 h4;obtain⟨r2,s2,H2,T2,i2,k1,k2,k3,k4,k5⟩:=ih bB dq e' g1 (by rw[g2];exact sn) (by omega) g3;exact⟨r2,s2,H2,T2,i2,k1,k2,k3,k4,k5.trans g4⟩
  have exec:∀{H T i0},sts.getLast?=some (H,T,i0)→(match o.guard with|none=>true=true|some (j,want)=>∃b,jD D.all j e=some b∧true=(b==some want))→j5 D (eD D r) o aN sts e H T→
    ∃bB dq H T i,rz D ops e0 bB dq (bt e0 bB)∧bB.length=ops.length∧dq.getLast?=some (H,T,i)∧D.K ⟨bt e0 bB,H,T⟩∧dq[0]?=sts[0]?:=by
   intro H T i0 cT hg hx;unfold j5 at hx
   split at hx
   ·rename_i g as jg;obtain⟨v,H',T',hc,hs,hd⟩:=hx;refine fin (run:=true) cT hg (fun e=>by cases e) (fun _=>?_) hs hd;unfold eI;rw[jg];exact hc
   ·rename_i jg
    split at hx
    ·rename_i v H' T' oL;refine fin (run:=true) cT hg (fun e=>by cases e) (fun _=>?_) hx.1 hx.2;unfold eI;rw[jg];exact oL
    ·exact hx.elim
  unfold eD at h
  split at h
  ·rename_i H T i0 cT
   split at h
   ·rename_i hg;exact exec cT (by rw[hg]) h
   ·rename_i j want hg
    split at h
    ·rename_i b hb
     split at h
     ·rename_i sO;exact exec cT (by rw[hg];exact⟨b,hb,by simp[sO]⟩) h
     ·rename_i sO;exact fin (run:=false) cT (by rw[hg];exact⟨b,hb,by simp[sO]⟩) (fun _=>⟨rfl,rfl,rfl⟩) (fun e=>by cases e) (fun _=>⟨rfl,rfl⟩) h
    ·exact h.elim
  ·exact h.elim
theorem AJ:∀(l:List Oper)(acc:List Nat)(i:Nat),i<acc.length→(eP l acc)[i]?=acc[i]?:=by
 intro l
 induction l with
 |nil=>intro acc i _;rfl
 |cons o r ih=>
  intro acc i hi;rw[eP,ih _ _ (by simp;omega),getElem?_append_left hi]
def uE (o:Oper)(acc:List Nat):Nat:=o.after.foldl (fun s e=>if Region.binds .any e then s ||| 2 ^ e.on ||| acc.getD e.on 0 else s) 0
theorem NF:∀(l:List Oper)(acc:List Nat)(i:Nat)(o:Oper),l[i]?=some o→∃yS,(eP l acc)[acc.length+i]?=some (uE o yS)∧yS.length=acc.length+i∧∀j,j<yS.length→yS[j]?=(eP l acc)[j]?:=by
 intro l
 induction l with
 |nil=>intro acc i o h;simp at h
 |cons p r ih=>
  intro acc i o h
  cases i with
  |zero=>
   simp at h;subst h;refine⟨acc,?_,by simp,fun j hj=>(AJ _ _ j hj).symm⟩;rw[eP,AJ _ _ _ (by simp)];simp[uE]
  |succ i=>
   obtain⟨yS,h1,h2,h3⟩:=ih (acc++[uE p acc]) i o (by simpa using h);refine⟨yS,?_,by simp at h2;omega,h3⟩;rw[eP];simp at h1;rw[show acc.length+(i+1)=acc.length+1+i by omega];exact h1
theorem DB (o:Oper)(acc:List Nat)(j:Nat)(h:(uE o acc).testBit j=true):∃e∈o.after,Region.binds .any e=true∧(e.on=j∨(acc.getD e.on 0).testBit j=true):=by
 unfold uE at h;rw[←Array.foldl_toList] at h;have key:∀(l:List Edge)(s:Nat),(l.foldl (fun s e=>if Region.binds .any e then s ||| 2 ^ e.on ||| acc.getD e.on 0 else s) s).testBit j=true→s.testBit j=true∨∃e∈l,Region.binds .any e=true∧(e.on=j∨(acc.getD e.on 0).testBit j=true):=by
  intro l
  induction l with
  |nil=>intro s h;exact .inl h
  |cons e r ih=>
   intro s h;rcases ih _ h with h1|⟨e',h1,h2⟩
   ·dsimp only at h1
    split at h1
    ·rename_i hb;simp only[Nat.testBit_or,Bool.or_eq_true] at h1;rcases h1 with (h1|h1)|h1
     ·exact .inl h1
     ·rw[Nat.testBit_two_pow] at h1;exact .inr ⟨e,by simp,hb,.inl (by simpa using h1)⟩
     ·exact .inr ⟨e,by simp,hb,.inr h1⟩
    ·exact .inl h1
   ·exact .inr ⟨e',by simp[h1],h2⟩
 rcases key _ _ h with h1|⟨e,h1,h2⟩
 ·simp at h1
 ·exact⟨e,by simpa using h1,h2⟩
theorem pG {ops:List Oper}{aA:Array Bool}(fS:∀i j,aA.getD i false=true→l9 (eP ops []) j i=true→aA.getD j false=true)
  {i:Nat} {o:Oper} (ho:ops[i]?=some o) (hr:∀e∈o.after,Region.binds .any e=true→aA.getD e.on false=true) (T4:∀e∈o.after,Region.binds .any e=true→e.on<i) {j:Nat} (hj:l9 (eP ops []) j i=true):aA.getD j false=true:=by
 obtain⟨yS,h1,h2,h3⟩:=NF ops [] i o ho;simp at h1 h2;unfold l9 at hj;rw[getD_eq_getElem?_getD,h1] at hj;obtain⟨e,he,hb,h4⟩:=DB o yS j hj;have hl:=hr e he hb;rcases h4 with h4|h4
 ·rw[←h4];exact hl
 ·refine fS e.on j hl ?_;unfold l9;have bh:=T4 e he hb;rw[getD_eq_getElem?_getD,←h3 e.on (by omega),←getD_eq_getElem?_getD];exact h4
theorem nY {ops:List Oper}{bw lo:List Nat}{na:List (List Nat)}(h:jl ops bw lo na=true) :
  (∀(i j:Nat)(x y:Oper)(d:Tmp),ops[i]?=some x→ops[j]?=some y→x.dst=some d→y.dst=some d→i=j)∧
  (∀(i j:Nat)(x y:Oper)(t:Tmp),ops[i]?=some x→ops[j]?=some y→t∈x.looksAt ops.toArray→y.dst=some t→i≠j∧((j<i∧l9 (eP ops []) j i=true)∨(i<j∧l9 (eP ops []) i j=true)))∧
  (∀k e,bw[k]?=some e→e<ops.length∧(0<k→∃e',bw[k-1]?=some e'∧l9 (eP ops []) e' e=true))∧
  (∀i,i<ops.length→lo.getD i 0≤D1 (eP ops []) bw i)∧
  (∀k e,bw[k]?=some e→∀j,j<e→bw.contains j=true∨(na.getD k []).contains j=true∨l9 (eP ops []) j e=true)∧
  (∀(i:Nat)(x:Oper),ops[i]?=some x→∀e∈x.after,Region.binds .any e=true→e.on<i)∧Region.noSelect ops.toArray=true:=by
 unfold jl at h;simp only[Bool.and_eq_true] at h;obtain⟨⟨⟨⟨⟨⟨⟨⟨⟨h1,h2⟩,h3⟩,h4⟩,h5⟩,h6⟩,h7⟩,h8⟩,h9⟩,Rm⟩:=h;have at_:∀{i:Nat} {x:Oper},ops[i]?=some x→i<ops.length∧ops.getD i default=x:=fun {i x} hi=>by
  obtain⟨a,b⟩:=List.getElem?_eq_some_iff.1 hi;exact⟨a,by rw[getD_eq_getElem?_getD,hi];rfl⟩
 have Ro:∀{k e:Nat},bw[k]?=some e→k<bw.length∧bw.getD k 0=e:=fun {k e} hi=>by
  obtain⟨a,b⟩:=List.getElem?_eq_some_iff.1 hi;exact⟨a,by rw[getD_eq_getElem?_getD,hi];rfl⟩
 refine⟨fun i j x y d hi hj hx hy=>?_,fun i j x y t hi hj ht hy=>?_,fun k e hk=>⟨?_,fun kE=>?_⟩,fun i hi=>?_,fun k e hk j hj=>?_,fun i x hi e he hb=>?_,Rm⟩
 ·obtain⟨a1,a2⟩:=at_ hi;obtain⟨b1,b2⟩:=at_ hj;have:=List.all_eq_true.1 (List.all_eq_true.1 h1 i (List.mem_range.2 a1)) j (List.mem_range.2 b1);rw[a2,b2,hx,hy] at this;simpa using this
 ·obtain⟨a1,a2⟩:=at_ hi;obtain⟨b1,b2⟩:=at_ hj;have dW:i≠j:=by
   rintro rfl;have e1:x=y:=by rw[hi] at hj;injection hj
   subst e1;have:=List.all_eq_true.1 (List.all_eq_true.1 h3 i (List.mem_range.2 a1)) t (by rw[a2];exact ht);rw[a2,hy] at this;simp at this
  have:=List.all_eq_true.1 (List.all_eq_true.1 (List.all_eq_true.1 h2 i (List.mem_range.2 a1)) t (by rw[a2];exact ht)) j (List.mem_range.2 b1);rw[b2,hy] at this;refine⟨dW,?_⟩;simpa[dW] using this
 ·obtain⟨a1,a2⟩:=Ro hk;have:=List.all_eq_true.1 h5 e (List.mem_of_getElem? hk);simpa using this
 ·obtain⟨a1,a2⟩:=Ro hk;have:=List.all_eq_true.1 h4 k (List.mem_range.2 a1);have tm:(k==0)=false:=by simp;omega
  rw[tm,a2] at this;have E5:k-1<bw.length:=by omega
  refine⟨bw[k-1],getElem?_eq_getElem E5,?_⟩;have e2:bw.getD (k-1) 0=bw[k-1]:=by rw[getD_eq_getElem?_getD,getElem?_eq_getElem E5];rfl
  rw[e2] at this;simpa using this
 ·have:=List.all_eq_true.1 h7 i (List.mem_range.2 hi);simpa using this
 ·obtain⟨a1,a2⟩:=Ro hk;have:=List.all_eq_true.1 (List.all_eq_true.1 h8 k (List.mem_range.2 a1)) j (List.mem_range.2 (by rw[a2];exact hj));rw[a2] at this;simp only[Bool.or_eq_true] at this;rcases this with (h|h)|h
  ·exact .inl h
  ·exact .inr (.inl h)
  ·exact .inr (.inr h)
 ·obtain⟨a1,a2⟩:=at_ hi;have:=Array.all_eq_true_iff_forall_mem.1 (List.all_eq_true.1 h9 i (List.mem_range.2 a1)) e (by rw[a2];exact he);rw[hb] at this;simpa using this
def mn (e:Env):List Tmp→Env
 |[]=>[]
 |t::r=>(t,bZ e t)::mn e r
theorem e9 (e:Env):∀(l:List Tmp)(t:Tmp),bZ (mn e l) t=if t∈l then bZ e t else .top:=by
 intro l
 induction l with
 |nil=>intro t;rfl
 |cons s r ih=>
  intro t;simp only[mn,bZ]
  by_cases h:s=t
  ·subst h;simp
  ·rw[if_neg h,ih];have:t≠s:=fun e=>h e.symm;simp[this]
def VS (aN:List dg)(aA:Array Bool)(e0:Env)(t:Nat)(v:AV):Prop:=
 (∃j x,aN[j]?=some x∧x.o.dst=some t∧aA.getD j false=true∧v=x.v)∨
 ((∀j x,aN[j]?=some x→x.o.dst=some t→aA.getD j false=false)∧v=bZ e0 t)
structure Inv (D:tu)(s:St)(aN:List dg)(sts:List oV)(L0:Lay)(w0:World)(aA:Array Bool)(a:Act)(w:World):Prop where
 size:aA.size=aN.length
 closed:∀i j,aA.getD i false=true→l9 (eP (aN.map (·.o)) []) j i=true→aA.getD j false=true
 st:∃k H T e L,(∀(m i:Nat),D.bw[m]?=some i→(aA.getD i false=true↔m<k))∧k≤D.bw.length∧sts[k]?=some (H,T,e)∧bN L H T w∧D.C.nb≤H.length∧D.C.tb≤T.length∧
  (∀t,∃v,VS aN aA s.e t v∧aZ L H.length T w v (a.tmps.getD t undef))∧Ev D.C.nb D.C.tb L0 s.H.length s.T w0 L H.length T w
 tmps:a.tmps.size=D.C.nt
 defers:a.defers=[]
theorem er {aA:Array Bool}{j:Nat}(h:j<aA.size):aA.getD j true=aA.getD j false:=by
 simp[h]
theorem rX {C:Cx}{ops:List Oper}{Q:Exit→St→Prop}{s:St}(K:St→Prop)(bw lo:List Nat)(na:List (List Nat))(pM:jl ops bw lo na=true)(qP:jx bw=true)
  (h:eD ⟨C,ops.toArray,bw,lo,na,K⟩ ops [] [(s.H,s.T,0)] (prune C.nv s.e)):∀L0 w0 a0,eR C s L0 w0 a0→
   wpAny C.P .any ops.toArray (dc C (eJ K Q) L0 s w0) ops.toArray.size (Array.replicate ops.toArray.size false) a0 { w0 with drawn:=w0.drawn+1 }:=by
 intro L0 w0 a0 qQ;have hc:eR C ⟨prune C.nv s.e,s.H,s.T⟩ L0 w0 a0:=⟨qQ.nb,qQ.tb,qQ.mN,qQ.size,qQ.defers,fun t=>by
  rcases pE C.nv s.e t with e|e<;>rw[e]
  ·exact qQ.env t
  ·exact .top _⟩
 generalize BD:(⟨prune C.nv s.e,s.H,s.T⟩:St)=s' at hc;have Ll:prune C.nv s.e=s'.e:=by rw[←BD]
 have LN:s.H=s'.H:=by rw[←BD]
 have O3:s.T=s'.T:=by rw[←BD]
 rw[Ll,LN,O3] at h;rw[show dc C (eJ K Q) L0 s w0=dc C (eJ K Q) L0 s' w0 by unfold dc;rw[LN,O3]];clear BD Ll LN O3 qQ;generalize hD:(⟨C,ops.toArray,bw,lo,na,K⟩:tu)=D at h;have l0:D.C=C:=by rw[←hD]
 have mM:D.bw=bw:=by rw[←hD]
 have L4:D.lo=lo:=by rw[←hD]
 have Rj:D.na=na:=by rw[←hD]
 have Rl:D.all=ops.toArray:=by rw[←hD]
 have hDK:D.K=K:=by rw[←hD]
 obtain⟨aN,sts,HL,TL,iL,hw,hlen,cT,hKK,aaq⟩:=DC (D:=D) (ops:=ops) (e0:=s'.e) (by rw[mM];exact qP) ops [] [(s'.H,s'.T,0)] s'.e
  ⟨⟨by simp,fun i x hx=>by simp at hx⟩,fun i x hx=>by simp at hx,fun i x hx=>by simp at hx,rfl⟩ (by simp) (by simp) h
 obtain⟨d1,d2,d3,d4,d5,d6,d7⟩:=nY pM;have EZ:∀(i:Nat)(x:dg),aN[i]?=some x→ops[i]?=some x.o:=fun i x hx=>(hw.EU i x hx).o;have Cb:aN.map (·.o)=ops:=by
  apply List.ext_getElem?;intro i;rw[List.getElem?_map]
  by_cases hi:i<aN.length
  ·rw[getElem?_eq_getElem hi,Option.map_some,EZ i _ (getElem?_eq_getElem hi)]
  ·rw[List.getElem?_eq_none (by omega),List.getElem?_eq_none (by omega)];rfl
 have PK:∀i,i<ops.length→∃x:dg,aN[i]?=some x:=fun i hi=>⟨_,getElem?_eq_getElem (by omega)⟩
 have PI:sts.length=1+bw.length:=by
  have h1:=hw.st.len;rw[mM] at h1;rw[h1]
  congr 2
  apply List.filter_eq_self.2;intro e he;obtain⟨k,hk,e1⟩:=List.mem_iff_getElem.1 he;have:=(d3 k e (by rw[getElem?_eq_getElem hk,e1])).1;simp;omega
 have key:∀(fuel:Nat)(aA:Array Bool)(a:Act)(w:World),Inv D s' aN sts L0 w0 aA a w→(∀i,i<ops.length→aA.getD i false=true)∨(List.range ops.length).countP (fun i=>!aA.getD i false)≤fuel→
   wpAny C.P .any ops.toArray (dc C (eJ K Q) L0 s' w0) fuel aA a w:=by
  have done:∀(aA:Array Bool)(a:Act)(w:World),Inv D s' aN sts L0 w0 aA a w→(∀i,i<ops.length→aA.getD i false=true)→dc C (eJ K Q) L0 s' w0 .normal a w:=by
   intro aA a w hI fy;obtain⟨k,H,T,e,L,hk,lW,oO,cQ,iD,iq,jk,dU⟩:=hI.st;have E4:k=bw.length:=by
    rw[mM] at hk lW;rcases lt_or_ge k bw.length with bh|ku
    ·have:=(hk k _ (getElem?_eq_getElem bh)).1 (fy _ (d3 k _ (getElem?_eq_getElem bh)).1);omega
    ·omega
   have Il:sts[k]?=some (HL,TL,iL):=by rw[←cT,List.getLast?_eq_getElem?,PI,E4];congr 1;omega
   rw[oO] at Il;obtain⟨rfl,rfl,rfl⟩:H=HL∧T=TL∧e=iL:=by injection Il with h1;injection h1 with h1 h2;injection h2 with h2 h3;exact⟨h1,h2,h3⟩
   rw[hDK] at hKK;rw[l0] at dU iD iq;refine⟨_,L,hKK,⟨iD,iq,cQ,by rw[hI.tmps,l0],hI.defers,fun t=>?_⟩,dU⟩;obtain⟨v,hv,hr⟩:=jk t;show aZ L H.length T w (bZ (bt s'.e aN) t) _;rcases hv with⟨j,x,hx,hd,hl,rfl⟩|⟨r6,rfl⟩
   ·rw[eY aN s'.e t j x hx hd (fun i y hy ZA=>d1 i j y.o x.o t (EZ i y hy) (EZ j x hx) ZA hd)];exact hr
   ·rw[dO aN s'.e t (fun x hx hd=>by
     obtain⟨j,hj,e1⟩:=List.mem_iff_getElem.1 hx;have h1:=r6 j x (by rw[getElem?_eq_getElem hj,e1]) hd;have h2:=fy j (by omega);rw[h1] at h2;cases h2)]
    exact hr
  have Zk:∀(aA:Array Bool)(a:Act)(w:World)(i:Nat)(KK:Act→World→Prop),Inv D s' aN sts L0 w0 aA a w→i∈Region.ready .any ops.toArray aA→
    (∀a' w',Inv D s' aN sts L0 w0 (aA.setIfInBounds i true) a' w'→KK a' w')→wpOp C.P ops.toArray (dc C (eJ K Q) L0 s' w0) i KK a w:=by
   intro aA a w i KK hI hi P4;obtain⟨BJ,o,ho,uz⟩:=mem_ready.1 hi;rw[getElem?_toArray] at ho;have cW:i<ops.length:=(List.getElem?_eq_some_iff.1 ho).1;have nu:i<aA.size:=by rw[hI.size];omega
   have tY:aA.getD i false=false:=by rw[←er nu];exact BJ
   obtain⟨x,hx⟩:=PK i cW;have BT:x.o=o:=by have:=EZ i x hx;rw[ho] at this;injection this with this;exact this.symm
   have hR:=hw.EU i x hx;have fS:∀i j,aA.getD i false=true→l9 (eP ops []) j i=true→aA.getD j false=true:=by
    have:=hI.closed;rw[Cb] at this;exact this
   have jZ:∀j,l9 (eP ops []) j i=true→aA.getD j false=true:=fun j hj=>pG fS ho uz (d6 i o ho) hj;obtain⟨k,H,T,e,L,hk,lW,oO,cQ,iD,iq,jk,dU⟩:=hI.st;rw[mM] at hk lW;rw[l0] at iD iq dU;have fw:∀t∈o.looksAt ops.toArray,∀v,VS aN aA s'.e t v→v=bZ x.e t:=by
    intro t ht v hv;rw[hw.yP i x hx];have NO:∀(j:Nat)(z:dg),aN[j]?=some z→z.o.dst=some t→i≠j∧((j<i∧l9 (eP ops []) j i=true)∨(i<j∧l9 (eP ops []) i j=true)):=fun j z hz hd=>d2 i j o z.o t ho (EZ j z hz) ht hd;rcases hv with⟨j,z,hz,hd,hl,rfl⟩|⟨r6,rfl⟩
    ·obtain⟨dW,h1|h1⟩:=NO j z hz hd
     ·rw[eY (aN.take i) s'.e t j z (by rw[List.getElem?_take,if_pos h1.1];exact hz) hd (fun i' y' yq Sf=>by
       rw[List.getElem?_take] at yq
       split at yq
       ·exact d1 i' j y'.o z.o t (EZ i' y' yq) (EZ j z hz) Sf hd
       ·cases yq)]
     ·have:=fS j i hl h1.2;rw[tY] at this;cases this
    ·rw[dO (aN.take i) s'.e t (fun z hz hd=>by
      obtain⟨j,hj,e1⟩:=List.mem_iff_getElem.1 hz;simp at hj;have LK:aN[j]?=some z:=by rw[getElem?_eq_getElem (by omega),←e1];simp
      have hf:=r6 j z LK hd;obtain⟨dW,h1|h1⟩:=NO j z LK hd
      ·have:=jZ j h1.2;rw[hf] at this;cases this
      ·omega)]
   have sU:eV L H.length T w (mn x.e (o.looksAt ops.toArray)) a:=by
    intro t;rw[e9]
    split
    ·rename_i ht;obtain⟨v,hv,hr⟩:=jk t;rw[←fw t ht v hv];exact hr
    ·exact .top _
   have It:∀z∈o.op.operands,bQ x.e z=bQ (mn x.e (o.looksAt ops.toArray)) z:=by
    intro z hz
    cases z with
    |tmp t=>
     have:t∈o.looksAt ops.toArray:=by
      unfold Oper.looksAt;exact List.mem_append.2 (.inl (List.mem_filterMap.2 ⟨_,Array.mem_toList_iff.2 hz,rfl⟩))
     simp only[bQ,e9,if_pos this]
    |_=>rfl
   have behind:∀(H':List aG)(T':ay)(cv:Value)(w':World)(L':Lay),bN L' H' T' w'→aZ L' H'.length T' w' x.v cv→Ev H.length T.length L H.length T w L' H'.length T' w'→
     ((bw.contains i=false∧H'=H∧T'=T)∨(bw.contains i=true∧bw[k]?=some i∧∃e',sts[k+1]?=some (H',T',e')))→KK (a.put o.dst cv) w':=by
    intro H' T' cv w' L' p8 oX oR o5;refine P4 _ _ ⟨by simp[hI.size],fun i' j' oM j0=>?_,?_,?_,by cases o.dst<;>exact hI.defers⟩
    ·rw[Cb] at j0
     by_cases vu:i=i'
     ·subst vu;have:=jZ j' j0
      by_cases lY:i=j'
      ·subst lY;rw[tY] at this;cases this
      ·rw[getD_set_ne false lY];exact this
     ·rw[getD_set_ne false vu] at oM;have:=fS i' j' oM j0;exact getD_set_true this
    ·have kY:∀t,∃v,VS aN (aA.setIfInBounds i true) s'.e t v∧aZ L' H'.length T' w' v ((a.put o.dst cv).tmps.getD t undef):=by
      intro t
      by_cases hd:o.dst=some t
      ·refine⟨x.v,.inl ⟨i,x,hx,by rw[BT];exact hd,by simp[nu],rfl⟩,?_⟩;have bh:t<a.tmps.size:=by rw[hI.tmps];exact hR.dst t (by rw[BT];exact hd)
       rw[hd,j9 a t t cv bh,if_pos rfl];exact oX
      ·obtain⟨v,hv,hr⟩:=jk t;refine⟨v,?_,?_⟩
       ·rcases hv with⟨j,z,hz,yC,hl,rfl⟩|⟨r6,rfl⟩
        ·exact .inl ⟨j,z,hz,yC,getD_set_true hl,rfl⟩
        ·refine .inr ⟨fun j z hz yC=>?_,rfl⟩;have lY:i≠j:=by
          rintro rfl;rw[hx] at hz
          cases hz
          rw[BT] at yC;exact hd yC
         rw[getD_set_ne false lY];exact r6 j z hz yC
       ·have e1:(a.put o.dst cv).tmps.getD t undef=a.tmps.getD t undef:=by
         cases oS:o.dst with
         |none=>rfl
         |some d=>
          have bh:d<a.tmps.size:=by rw[hI.tmps];exact hR.dst d (by rw[BT];exact oS)
          rw[j9 a d t cv bh,if_neg (fun e=>hd (by rw[oS,e]))]
        rw[e1];exact hr.keep oR.keeps
     have Io:=dU.trans (oR.mono iD iq);rcases o5 with⟨dW,rfl,rfl⟩|⟨heq,qO,e',yJ⟩
     ·refine⟨k,H',T',e,L',fun m i' pI=>?_,by rw[mM];exact lW,oO,p8,by rw[l0];exact iD,by rw[l0];exact iq,kY,by rw[l0];exact Io⟩;rw[mM] at pI;have vu:i≠i':=by
       rintro rfl;have:=List.mem_of_getElem? pI;rw[←List.contains_iff_mem] at this;rw[dW] at this;cases this
      rw[getD_set_ne false vu];exact hk m i' pI
     ·refine⟨k+1,H',T',e',L',fun m i' pI=>?_,by rw[mM];have:=(List.getElem?_eq_some_iff.1 qO).1;omega,yJ,p8,by rw[l0];exact le_trans iD oR.n,by rw[l0];exact le_trans iq oR.t,kY,by rw[l0];exact Io⟩;rw[mM] at pI
      by_cases vu:i=i'
      ·subst vu;have e1:=(iy qP heq).1;have LS:∀m',bw[m']?=some i→m'=(bw.filter (·<i)).length:=by
        intro m' Ik;have ik:=(List.getElem?_eq_some_iff.1 Ik).1;have:=List.all_eq_true.1 qP m' (List.mem_range.2 ik);simp only[Bool.and_eq_true,beq_iff_eq,getD_eq_getElem?_getD,Ik,Option.getD_some] at this;exact this.1.symm
       have h1:=LS m pI;have h2:=LS k qO;simp[nu];omega
      ·rw[getD_set_ne false vu,hk m i' pI]
       constructor
       ·intro h;omega
       ·intro h;rcases lt_or_ge m k with h1|h1
        ·exact h1
        ·have:m=k:=by omega
         subst this;rw[qO] at pI
         injection pI with pI
         exact absurd pI vu
    ·simp[Act.put];cases o.dst<;>simp[hI.tmps]
   have uy:bw.contains i=true→bw[k]?=some i∧x.k=k:=by
    intro heq;obtain⟨e1,_⟩:=iy qP heq;have xm:=hw.st.k i x hx;rw[mM] at xm;have ku:k≤(bw.filter (·<i)).length:=by
     rcases lt_or_ge (bw.filter (·<i)).length k with h1|h1
     ·have:=(hk _ i e1).2 h1;rw[tY] at this;cases this
     ·exact h1
    have hle:(bw.filter (·<i)).length≤k:=by
     rcases Nat.eq_zero_or_pos (bw.filter (·<i)).length with h0|h0
     ·omega
     ·obtain⟨e',h1,h2⟩:=(d3 _ i e1).2 h0;have:=(hk _ e' h1).1 (jZ e' h2);omega
    have:(bw.filter (·<i)).length=k:=by omega
    exact⟨by rw[←this];exact e1,by omega⟩
   have R7:∀j b,jD D.all j x.e=some b→o.guard=some (j,true)∨o.guard=some (j,false)→yielded ops.toArray a.tmps j=b:=by
    intro j b hb hg;rw[Rl] at hb;refine mD sU ?_;unfold jD at hb ⊢
    split at hb
    ·rename_i d hd;have:d∈o.looksAt ops.toArray:=by
      unfold Oper.looksAt;refine List.mem_append.2 (.inr ?_);rcases hg with hg|hg<;>rw[hg]<;>simp only[hd]<;>simp
     rw[e9,if_pos this];exact hb
    ·cases hb
   unfold wpOp;rw[getElem?_toArray,ho]
   dsimp only
   have hgate:=hR.gate;rw[BT] at hgate
   by_cases cK:x.run=true
   ·
    have pZ:Region.wanted o (yielded ops.toArray a.tmps)=true:=by
     unfold Region.wanted
     cases hg:o.guard with
     |none=>rfl
     |some jw=>
      obtain⟨j,want⟩:=jw;rw[hg] at hgate;obtain⟨b,hb,fW⟩:=hgate;have:=R7 j b hb (by cases want<;>simp[hg]);rw[cK] at fW;simp only[this];have sO:b=some want:=by simpa using fW.symm
      simp[sO]
    rw[if_pos pZ];refine .inl ?_;have RO:∃H' T',eI C.P o x.e H T x.v H' T'∧((bw.contains i=false∧H'=H∧T'=T)∨(bw.contains i=true∧bw[k]?=some i∧∃e',sts[k+1]?=some (H',T',e'))):=by
     cases heq:bw.contains i with
     |false=>
      have HS:x.bw=false:=by rw[hR.bw,mM];exact heq
      have dA:=hR.still cK HS k H T e oO ?_ ?_
      ·rw[l0,BT] at dA;exact⟨H,T,dA,.inl ⟨rfl,rfl,rfl⟩⟩
      ·rw[L4];refine le_trans (d4 i cW) ?_;unfold D1;have aap:∀e'∈bw.filter (fun e=>l9 (eP ops []) e i),∃m,m<k∧bw[m]?=some e':=by
        intro e' sM;obtain⟨h1,h2⟩:=List.mem_filter.1 sM;obtain⟨m,NR,HG⟩:=List.mem_iff_getElem.1 h1;have LU:bw[m]?=some e':=by rw[getElem?_eq_getElem NR,HG]
        exact⟨m,(hk m e' LU).1 (jZ e' h2),LU⟩
       have hle:(bw.filter (fun e=>l9 (eP ops []) e i)).length≤(bw.take k).length:=by
        have e1:bw.filter (fun e=>l9 (eP ops []) e i)=(bw.take k).filter (fun e=>l9 (eP ops []) e i)++(bw.drop k).filter (fun e=>l9 (eP ops []) e i):=by
         rw[←List.filter_append,List.take_append_drop]
        have e2:(bw.drop k).filter (fun e=>l9 (eP ops []) e i)=[]:=by
         rw[List.filter_eq_nil_iff];intro e' sM j0;obtain⟨m,NR,HG⟩:=List.mem_iff_getElem.1 sM;simp at NR;have LU:bw[k+m]?=some e':=by
          rw[getElem?_eq_getElem (by omega),←HG];simp
         have:=(hk (k+m) e' LU).1 (jZ e' j0);omega
        rw[e1,e2,List.append_nil];exact List.length_filter_le _ _
       refine le_trans hle ?_;simp;omega
      ·rcases lt_or_ge x.k k with bh|ku
       ·right
        rw[Rj];have E4:k-1<bw.length:=by omega
        have sM:=getElem?_eq_getElem E4;have Pa:=(hk (k-1) _ sM).2 (by omega);have Lt:i<bw[k-1]:=by
         rcases lt_or_ge i bw[k-1] with h1|h1
         ·exact h1
         ·exfalso;have dW:bw[k-1]≠i:=by
           intro e1;have:=List.mem_of_getElem? sM;rw[e1,←List.contains_iff_mem] at this;rw[heq] at this;cases this
          have xm:=hw.st.k i x hx;rw[mM] at xm;have h2:=List.all_eq_true.1 qP (k-1) (List.mem_range.2 E4);simp only[Bool.and_eq_true,beq_iff_eq,getD_eq_getElem?_getD,sM,Option.getD_some] at h2;have h3:(bw.filter (·<bw[k-1]+1)).length≤(bw.filter (·<i)).length:=by
           rw[←List.countP_eq_length_filter,←List.countP_eq_length_filter];exact List.countP_mono_left (fun z _ hz=>by simp at hz ⊢;omega)
          omega
        rcases d5 (k-1) _ sM i Lt with h1|h1|h1
        ·rw[heq] at h1;cases h1
        ·exact h1
        ·have:=fS _ i Pa h1;rw[tY] at this;cases this
       ·exact .inl ku
     |true=>
      have HS:x.bw=true:=by rw[hR.bw,mM];exact heq
      obtain⟨qO,xm⟩:=uy heq;obtain⟨Ha,Ta,ea,Hb,Tb,g1,g2,g3,_⟩:=hR.effect HS;rw[xm,oO] at g1;obtain⟨rfl,rfl⟩:H=Ha∧T=Ta:=by injection g1 with h1;injection h1 with h1 h2;injection h2 with h2 h3;exact⟨h1,h2⟩
      rw[xm] at g2;have:=g3 cK;rw[l0,BT] at this;exact⟨Hb,Tb,this,.inr ⟨rfl,qO,i,g2⟩⟩
    obtain⟨H',T',hex,o5⟩:=RO;exact AK (sJ It hex) cQ sU fun cv w' L' g1 g2 g3=>behind H' T' cv w' L' g1 g2 g3 o5
   ·
    have nD:x.run=false:=by simpa using cK
    have pZ:Region.wanted o (yielded ops.toArray a.tmps)=false:=by
     unfold Region.wanted
     cases hg:o.guard with
     |none=>rw[hg] at hgate;rw[hgate] at nD;cases nD
     |some jw=>
      obtain⟨j,want⟩:=jw;rw[hg] at hgate;obtain⟨b,hb,fW⟩:=hgate;have:=R7 j b hb (by cases want<;>simp[hg]);rw[nD] at fW;simp only[this];have sO:b≠some want:=by simpa using fW.symm
      simp[sO]
    rw[if_neg (by simp[pZ])];have hv:x.v=.cJ []:=hR.skip nD
    cases heq:bw.contains i with
    |false=>exact behind H T undef w L cQ (by rw[hv];exact .cJ [] #[] rfl (fun j hj=>by simp at hj)) (Ev.refl (le_refl _) (le_refl _)) (.inl ⟨heq,rfl,rfl⟩)
    |true=>
     have HS:x.bw=true:=by rw[hR.bw,mM];exact heq
     obtain⟨qO,xm⟩:=uy heq;obtain⟨Ha,Ta,ea,Hb,Tb,g1,g2,_,g4⟩:=hR.effect HS;rw[xm,oO] at g1;obtain⟨rfl,rfl⟩:H=Ha∧T=Ta:=by injection g1 with h1;injection h1 with h1 h2;injection h2 with h2 h3;exact⟨h1,h2⟩
     obtain⟨rfl,rfl⟩:=g4 nD;rw[xm] at g2;exact behind _ _ undef w L cQ (by rw[hv];exact .cJ [] #[] rfl (fun j hj=>by simp at hj)) (Ev.refl (le_refl _) (le_refl _)) (.inr ⟨heq,qO,i,g2⟩)
  have pz:∀(aA:Array Bool),aA.size=aN.length→Region.ready .any ops.toArray aA=[]→∀i,i<ops.length→aA.getD i false=true:=by
   intro aA gN hr i
   induction i using Nat.strongRecOn with
   |_ i ih=>
    intro cW
    cases ZO:aA.getD i false with
    |true=>rfl
    |false=>
     exfalso;have lv:i∈Region.ready .any ops.toArray aA:=by
      refine mem_ready.2 ⟨by rw[er (by omega)];exact ZO,ops[i],by rw[getElem?_toArray,getElem?_eq_getElem cW],fun e he hb=>?_⟩;have bh:=d6 i _ (getElem?_eq_getElem cW) e he hb;exact ih e.on bh (by omega)
     rw[hr] at lv;simp at lv
  intro fuel
  induction fuel with
  |zero=>
   intro aA a w hI xx;have fy:∀i,i<ops.length→aA.getD i false=true:=by
    rcases xx with h1|h1
    ·exact h1
    ·intro i hi;have h2:(List.range ops.length).countP (fun i=>!aA.getD i false)=0:=by omega
     have:=List.countP_eq_zero.1 h2 i (List.mem_range.2 hi);simpa using this
   refine⟨?_,done aA a w hI fy⟩;rw[List.eq_nil_iff_forall_not_mem];intro i hi;obtain⟨h1,o,ho,_⟩:=mem_ready.1 hi;rw[getElem?_toArray] at ho;have cW:=(List.getElem?_eq_some_iff.1 ho).1;rw[er (by rw[hI.size];omega),fy i cW] at h1
   cases h1
  |succ fuel ih=>
   intro aA a w hI xx;refine⟨fun hr=>done aA a w hI (pz aA hI.size hr),fun i hi=>?_⟩;refine Zk aA a w i _ hI hi fun a' w' SF=>ih _ a' w' SF ?_;obtain⟨h1,o,ho,_⟩:=mem_ready.1 hi;rw[getElem?_toArray] at ho;have cW:=(List.getElem?_eq_some_iff.1 ho).1;have nu:i<aA.size:=by rw[hI.size];omega
   rw[er nu] at h1;rcases xx with h2|h2
   ·rw[h2 i cW] at h1;cases h1
   ·right
    have:(List.range ops.length).countP (fun j=>!(aA.setIfInBounds i true).getD j false)+1≤(List.range ops.length).countP (fun j=>!aA.getD j false):=by
     have Qt:(List.range ops.length).countP (fun j=>!aA.getD j false)=(List.range ops.length).countP (fun j=>!(aA.setIfInBounds i true).getD j false)+(List.range ops.length).countP (fun j=>decide (j=i)):=by
      generalize List.range ops.length=l
      induction l with
      |nil=>rfl
      |cons y r Zy=>
       simp only[List.countP_cons,Zy]
       by_cases hy:y=i
       ·subst hy;simp[h1,nu];omega
       ·rw[getD_set_ne false (fun e=>hy e.symm)];simp[hy];omega
     have kE:0<(List.range ops.length).countP (fun j=>decide (j=i)):=List.countP_pos_iff.2 ⟨i,List.mem_range.2 cW,by simp⟩;omega
    omega
 have gN:ops.toArray.size=ops.length:=by simp
 rw[gN];refine key ops.length _ a0 _ ⟨by simp[hlen],fun i j hl _=>?_,⟨0,s'.H,s'.T,0,L0,fun m i ZN=>?_,Nat.zero_le _,by rw[aaq];rfl,hc.mN.drew rfl,by rw[l0];exact hc.nb,by rw[l0];exact hc.tb,fun t=>?_,?_⟩,by rw[l0];exact hc.size,hc.defers⟩ (.inr ?_)
 ·exfalso
  by_cases hi:i<ops.length<;>simp[hi] at hl
 ·constructor
  ·intro hl;exfalso
   by_cases hi:i<ops.length<;>simp[hi] at hl
  ·intro h;omega
 ·refine⟨bZ s'.e t,.inr ⟨fun j x hx hd=>?_,rfl⟩,?_⟩
  ·by_cases hj:j<ops.length<;>simp[hj]
  ·have kd:dd L0 s'.H.length s'.T w0 L0 s'.H.length s'.T { w0 with drawn:=w0.drawn+1 }:=(Ev.drew (H:=s'.H) (T:=s'.T) (L:=L0) (w:=w0) (w':={ w0 with drawn:=w0.drawn+1 }) rfl rfl rfl rfl (Nat.le_succ _)).keeps;exact(hc.env t).keep kd
 ·rw[l0];exact(Ev.drew (H:=s'.H) (T:=s'.T) (L:=L0) (w:=w0) (w':={ w0 with drawn:=w0.drawn+1 }) rfl rfl rfl rfl (Nat.le_succ _)).mono hc.nb hc.tb
 ·refine le_trans (List.countP_le_length) ?_;simp
theorem AH {C:Cx}{id:Nat}{ops:List Oper}{Q:Exit→St→Prop}{s:St}(K:St→Prop)(bw lo:List Nat)(na:List (List Nat))(hm:C.P.follows .mixedOrders=true)(pM:jl ops bw lo na=true)(qP:jx bw=true)
  (h:eD ⟨C,ops.toArray,bw,lo,na,K⟩ ops [] [(s.H,s.T,0)] (prune C.nv s.e)):AW C (.region id ops.toArray true) (eJ K Q) s:=
 fun L0 w0 a0 qQ=>wp_region_any hm (rX K bw lo na pM qP h L0 w0 a0 qQ)
theorem aM {C:Cx}{id:Nat}{ops:List Oper}{Q:Exit→St→Prop}{s:St}{y:Code}(bw lo:List Nat)(na:List (List Nat))(hm:C.P.follows .mixedOrders=true)(pM:jl ops bw lo na=true)(qP:jx bw=true)
  (h:∀K:St→Prop,(∀s,AW C y Q s→K s)→eD ⟨C,ops.toArray,bw,lo,na,K⟩ ops [] [(s.H,s.T,0)] (prune C.nv s.e)):AW C (.seq (.region id ops.toArray true) y) Q s:=
 xN fun K hK=>AH K bw lo na hm pM qP (h K hK)
theorem cE {C:Cx}{id:Nat}{ops:List Oper}{Q:Exit→St→Prop}{s:St}(bw lo:List Nat)(na:List (List Nat))(hm:C.P.follows .mixedOrders=true)(pM:jl ops bw lo na=true)(qP:jx bw=true)
  (h:∀K:St→Prop,(∀s,Q .normal s→K s)→eD ⟨C,ops.toArray,bw,lo,na,K⟩ ops [] [(s.H,s.T,0)] (prune C.nv s.e)):AW C (.region id ops.toArray true) Q s:=
 (AH (Q:=Q) (fun s=>Q .normal s) bw lo na hm pM qP (h _ fun _ h=>h)).mono fun e s q=>by cases e<;>exact q
section
variable {P : Program} {f : FuncId} {args : List AV} {H rH : List aG} {T rT : ay} {L : Lay} {w : World}
theorem bN.front (P:Program)(h:bN L (H++rH) (T++rT) w)(ho:bM H T):bN L H T w:=by
 let C:Cx:=⟨P,0,0,H.length,T.length,[]⟩
 let a:Act:={ tmps:=#[],defers:=[] }
 have hc:eR C ⟨[],H++rH,T++rT⟩ L w a:=⟨by simp[C],by simp[C],h,rfl,rfl,fun t=>.top _⟩
 have hw:vK C ⟨[],H++rH,T++rT⟩ ⟨[],H,T⟩:=⟨le_refl _,le_refl _,⟨rH,rfl⟩,⟨rT,rfl⟩,ho,fun t=>.inl rfl⟩
 exact(hw.mN hc).mN
theorem Ev.front {L0:Lay}{w0:World}{H0:List aG}{T0:ay}{nb tb:Nat}(h:Ev nb tb L0 H0.length T0 w0 L (H++rH).length (T++rT) w)(hn:nb≤H.length)(ht:tb≤T.length):Ev nb tb L0 H0.length T0 w0 L H.length T w:=by
 refine⟨hn,h.bL,fun t u z bh hT=>?_,ht,h.m,h.qZ,h.size,h.frame,fun b hb=>h.wr b ?_,h.os,h.tape,h.output,h.drawn,h.dr⟩
 ·obtain⟨u',h1,h2,h3⟩:=h.tok t u z bh hT;exact⟨u',by rwa [getElem?_append_left (by omega)] at h1,h2,h3⟩
 ·rcases hb with⟨i,hi,e⟩|⟨t,u,z,h1,h2,e⟩
  ·exact .inl ⟨i,by simp;omega,e⟩
  ·exact .inr ⟨t,u,z,by rw[getElem?_append_left (List.getElem?_eq_some_iff.1 h1).1];exact h1,h2,e⟩
theorem al.drop {r:AV}(h:al P f args H T (Is r (H++rH) (T++rT)))(hb:Below H.length T.length (cC r)):al P f args H T (Is (cC r) H T):=by
 refine⟨h.1,fun L w ca hc hl hr=>(h.2 L w ca hc hl hr).mono ?_⟩;rintro e w' ⟨r',H',T',L',cv,⟨e1,e2,e3⟩,rfl,cQ,dF,dU⟩;subst e1;subst e2;subst e3;refine⟨_,H,T,L',cv,⟨rfl,rfl,rfl⟩,rfl,bN.front P cQ hc.fC,?_,dU.front (le_refl _) (le_refl _)⟩;have:=(dF.cC).drop hb;simpa using this
theorem al.cut {r0:AV}(H1:List aG)(T1:ay)(hl:H.length≤H1.length)(ht:T.length≤T1.length)(ho:bM H T→bM H1 T1)(hb:Below H1.length T1.length r0)
  (h:al P f args H T (fun r H' T'=>(∃rH,H'=H1++rH)∧(∃rT,T'=T1++rT)∧(r=r0∨cC r=r0))):al P f args H T (Is r0 H1 T1):=by
 refine⟨h.1,fun L w ca hc oM hr=>(h.2 L w ca hc oM hr).mono ?_⟩;rintro e w' ⟨r',H',T',L',cv,⟨⟨rH,e1⟩,⟨rT,e2⟩,e3⟩,rfl,cQ,dF,dU⟩;subst e1;subst e2;refine⟨_,H1,T1,L',cv,⟨rfl,rfl,rfl⟩,rfl,bN.front P cQ (ho hc.fC),?_,dU.front hl ht⟩;have oX:aZ L' (H1++rH).length (T1++rT) w' r0 cv:=by
  rcases e3 with e3|e3
  ·rw[←e3];exact dF
  ·rw[←e3];exact dF.cC
 have:=oX.drop hb;simpa using this
theorem al.dS {r0:AV}(h:al P f args H T (fun r H' T'=>(∃rH,H'=H++rH)∧(∃rT,T'=T++rT)∧(r=r0∨cC r=r0)))(hb:Below H.length T.length r0):al P f args H T (Is r0 H T):=
 al.cut H T (le_refl _) (le_refl _) id hb h
theorem bN.Ax (h:bN L H T w){b k:Nat}(hb:b<w.heap.size)(hw:¬Wr L H.length T b)(hk:L.m b≤k):bN (L.bJ b k) H T w:=by
 have hm:∀x,L.m x≤(L.bJ b k).m x:=by
  intro x;show L.m x≤if x=b then k else L.m x
  split
  ·rename_i e;rw[e];exact hk
  ·exact le_refl _
 have kp:dd L H.length T w (L.bJ b k) H.length T w:=⟨le_refl _,fun _ _=>rfl,fun t u z h=>⟨u,h,le_refl _,fun _=>rfl⟩,hm,fun _ _ _=>rfl,rfl⟩
 refine⟨fun i x hx=>?_,h.inj,fun t u z ht=>?_,h.mP,h.je,fun x hx=>?_,h.gl.keep hm (fun _ _ _=>rfl)⟩
 ·have hi:=(List.getElem?_eq_some_iff.1 hx).1;refine(h.box i x hx).stay kp hi rfl fun h5=>?_;show (if L.bL i=b then k else L.m (L.bL i))=0;rw[if_neg (fun e=>hw (.inl ⟨i,hi,e⟩))];exact h5
 ·obtain⟨h1,h2⟩:=h.tok t u z ht;refine⟨h1,fun hs=>?_⟩;obtain⟨c,e,fr,g1,g2,g3,g4⟩:=h2 hs;refine⟨c,e,fr,g1,g2,g3,?_⟩;show (if (L.dD t).b=b then k else L.m (L.dD t).b)≤_;rw[if_neg (fun e=>hw (.inr ⟨t,u,z,ht,hs,e⟩))];exact g4
 ·show (if x=b then k else L.m x)=0;rw[if_neg (by omega)];exact h.mz x hx
theorem al.freeze {n:Nat}{vs:List AV}(h:al P f args H T (Is (.cO H.length 0 n) (H++[.cells vs]) T))(hb:aL H.length T.length vs):al P f args H T (Is (.sl n vs .none) H T):=by
 refine⟨h.1,fun L w ca hc hl hr=>(h.2 L w ca hc hl hr).mono ?_⟩;rintro e w' ⟨r',H',T',L',cv,⟨e1,e2,e3⟩,rfl,cQ,dF,dU⟩;have e3':=e3.symm;subst e1;subst e2;subst e3';obtain⟨cap,rfl,bV,bh⟩:=dF.iF;have pf:=cQ.box H.length (.cells vs) (by simp);have Mi:=pf.lt;obtain⟨c,t,fr,g1,g2,g3,vw,g4,g5⟩:=pf;have qY:bN L' H T w':=bN.front (rT:=[]) P (by simpa using cQ) hc.fC;have BH:¬Wr L' H.length T (L'.bL H.length):=by
  rintro (⟨i,hi,e⟩|⟨t,u,z,ht,hs,e⟩)
  ·have:=cQ.inj i H.length (by simp;omega) (by simp) e;omega
  ·exact cQ.je t u z H.length ht hs (by simp) e
 have lZ:=qY.Ax (k:=vs.length) Mi BH (by omega);have e1:Ev H.length T.length L H.length T w L' H.length T w':=by
  have:=dU;have h2:=Ev.front (H:=H) (rH:=[.cells vs]) (T:=T) (rT:=[]) (L:=L') (w:=w') (L0:=L) (w0:=w) (H0:=H) (T0:=T) (nb:=H.length) (tb:=T.length) (by simpa using dU) (le_refl _) (le_refl _);exact h2
 have kp:dd L' H.length T w' (L'.bJ (L'.bL H.length) vs.length) H.length T w':=by
  refine⟨le_refl _,fun _ _=>rfl,fun t u z h=>⟨u,h,le_refl _,fun _=>rfl⟩,fun x=>?_,fun _ _ _=>rfl,rfl⟩;show L'.m x≤if x=L'.bL H.length then vs.length else L'.m x
  split
  ·rename_i e;rw[e,g5];exact Nat.zero_le _
  ·exact le_refl _
 refine⟨_,H,T,L'.bJ (L'.bL H.length) vs.length,_,⟨rfl,rfl,rfl⟩,rfl,lZ,?_,?_⟩
 ·have O5:bW L' H.length T w' vs c.toList:=by
   refine⟨by simpa using g3,fun j hj=>?_,fun j hj bK=>?_⟩
   ·have:=vw j (by simpa using hj);rw[Array.getElem_toList];exact this
   ·have:=(g4 j hj (by simpa using bK)).drop (hb _ (List.getElem_mem hj));rw[take_length] at this;rw[Array.getElem_toList];exact this
  refine aZ.jW bV ?_ (O5.keep kp) (fun j hj=>?_) trivial
  ·show 0+vs.length≤if L'.bL H.length=L'.bL H.length then vs.length else _
   rw[if_pos rfl];omega
  ·rw[fi g1];simp
 ·exact⟨e1.n,e1.bL,e1.tok,e1.t,fun b=>le_trans (e1.m b) (kp.m b),e1.qZ,e1.size,e1.frame,e1.wr,e1.os,e1.tape,e1.output,e1.drawn,e1.dr⟩
theorem bN.own (h:bN L H T w)(u:Nat){z:Nat}(hz:0<z):bN (L.aU T.length ⟨0,0,0⟩) H (T++[(u,z)]) w:=
 h.j6 ⟨0,0,0⟩ u z (fun h=>by simp at h) ⟨hz,fun h=>by simp[Lay.aU] at h⟩
theorem Ev.own (u z:Nat):Ev H.length T.length L H.length T w (L.aU T.length ⟨0,0,0⟩) H.length (T++[(u,z)]) w:=
 (Ev.refl (le_refl _) (le_refl _)).j6 (fun h=>by simp at h)
theorem aZ.own {n:Nat}{cs:List AV}{c:Value}{z:Nat}(h:aZ L H.length T w (.sl n cs .full) c):aZ (L.aU T.length ⟨0,0,0⟩) H.length (T++[(cs.length,z)]) w (.sl n cs (.own T.length)) c:=by
 have hk:=(h.cC).keep (Ev.own (H:=H) (T:=T) (L:=L) (w:=w) cs.length z).keeps;obtain⟨a,cap,rfl,bV,ht,_⟩:=h.eS;have tok:∀a',jr (L.aU T.length ⟨0,0,0⟩) (T++[(cs.length,z)]) (.own T.length) n cs.length a' cap:=fun a'=>⟨cs.length,z,by simp,le_refl _,fun _=>.inl ht⟩
 simp only[Am.cC] at hk;obtain⟨a',FE,e1,jz,_,EX⟩:=hk.eS
 cases e1
 rcases EX with⟨e2,e3⟩|⟨b,base,cv,e2,g1,g2,g3⟩
 ·subst e2;subst e3;exact .vR _ _ _ (tok _)
 ·subst e2;exact aZ.jW jz g1 g2 g3 (tok _)
theorem al.aai {n z:Nat}{cs:List AV}{as:List AV}{Q:AV→List aG→ay→Prop}(hz:0<z)(h:al P f (.sl n cs (.own T.length)::as) H (T++[(cs.length,z)]) Q):al P f (.sl n cs .full::as) H T Q:=by
 refine⟨h.1,fun L w ca hc hl hr=>(h.2 (L.aU T.length ⟨0,0,0⟩) w ca (hc.own _ hz) hl (fun j hj bK=>?_)).mono ?_⟩
 ·cases j with
  |zero=>exact(hr 0 (by simp) bK).own
  |succ j=>exact(hr (j+1) hj bK).keep (Ev.own (H:=H) (T:=T) (L:=L) (w:=w) cs.length z).keeps
 ·rintro e w' ⟨r',H',T',L',cv,hq,he,cQ,dF,dU⟩;exact⟨r',H',T',L',cv,hq,he,cQ,dF,(Ev.own (H:=H) (T:=T) (L:=L) (w:=w) cs.length z).trans (dU.mono (le_refl _) (by simp))⟩
theorem al.cg {a:AV}{as:List AV}{Q:AV→List aG→ay→Prop}(h:al P f (cC a::as) H T Q):al P f (a::as) H T Q:=by
 refine⟨h.1,fun L w ca hc hl hr=>h.2 L w ca hc hl (fun j hj bK=>?_)⟩
 cases j with
 |zero=>exact(hr 0 (by simp) bK).cC
 |succ j=>exact hr (j+1) hj bK
theorem al.nF {a b:AV}{as:List AV}{Q:AV→List aG→ay→Prop}(h:al P f (a::cC b::as) H T Q):al P f (a::b::as) H T Q:=by
 refine⟨h.1,fun L w ca hc hl hr=>h.2 L w ca hc hl (fun j hj bK=>?_)⟩
 match j,hj with
 |0,_=>exact hr 0 (by simp) bK
 |1,_=>exact(hr 1 (by simp) bK).cC
 |j+2,hj=>exact hr (j+2) hj bK
theorem jm {C:Cx}{c:Code}{Q:Exit→St→Prop}{s:St}(t:Nat)(n z:Nat)(cs:List AV)(hz:0<z)(ht:bZ s.e t=.sl n cs .full)(h:AW C c Q ⟨mT s.e t (.sl n cs (.own s.T.length)),s.H,s.T++[(cs.length,z)]⟩):AW C c Q s:=by
 intro L w a hc;have ev:=Ev.own (H:=s.H) (T:=s.T) (L:=L) (w:=w) cs.length z;refine wp_mono (h (L.aU s.T.length ⟨0,0,0⟩) w a ⟨hc.nb,by simp;have:=hc.tb;omega,hc.mN.own _ hz,hc.size,hc.defers,fun t'=>?_⟩) fun _ _ _ k=>dc.step (s1:=⟨mT s.e t (.sl n cs (.own s.T.length)),s.H,s.T++[(cs.length,z)]⟩) (ev.mono hc.nb hc.tb) k
 by_cases h1:t=t'
 ·subst h1;rw[kn];have:=hc.env t;rw[ht] at this;exact this.own
 ·rw[jq _ _ _ _ h1];exact(hc.env t').keep ev.keeps
theorem al.is {r r':AV}{H' H'':List aG}{T' Xs:ay}(h:al P f args H T (Is r H' T'))(h1:r=r')(h2:H'=H'')(h3:T'=Xs):al P f args H T (Is r' H'' Xs):=by subst h1;subst h2;subst h3;exact h
end
theorem Below.more {n n' t t':Nat}{v:AV}(h:Below n t v)(hn:n≤n')(ht:t≤t'):Below n' t' v:=by
 induction h with
 |top=>exact .top
 |bool b=>exact .bool b
 |int k x=>exact .int k x
 |str s=>exact .str s
 |eO=>exact .eO
 |ptr i o h=>exact .ptr i o (lt_of_lt_of_le h hn)
 |dI cs o h ih=>exact .dI cs o ih
 |sl m cs tg h hx ih=>exact .sl m cs tg ih (fun x e=>lt_of_lt_of_le (hx x e) ht)
 |cO i o m h=>exact .cO i o m (lt_of_lt_of_le h hn)
 |dP i m cap h=>exact .dP i m cap (lt_of_lt_of_le h hn)
 |aV i h=>exact .aV i (lt_of_lt_of_le h hn)
 |fn f a b h1 h2 OZ OY=>exact .fn f a b OZ OY
 |gw=>exact .gw
 |kV=>exact .kV
 |xl=>exact .xl
 |agg cs h ih=>exact .agg cs ih
 |cJ cs h ih=>exact .cJ cs ih
theorem bM.Ol {H:List aG}{T:ay}{b:aG}(h:bM H T)(hv:aL (H.length+1) T.length b.xq):bM (H++[b]) T:=by
 intro i us hi v hm;rw[length_append,length_singleton];rcases lt_or_ge i H.length with bh|ku
 ·rw[getElem?_append_left bh] at hi;exact(h i us hi v hm).more (by omega) (le_refl _)
 ·have:i=H.length:=by have:=(List.getElem?_eq_some_iff.1 hi).1;simp at this;omega
  subst this;simp at hi;subst hi;exact hv v hm
theorem bM.snoc {H:List aG}{T:ay}{vs:List AV}(h:bM H T)(hv:aL (H.length+1) T.length vs):bM (H++[.cells vs]) T:=h.Ol hv
theorem bM.ML {H:List aG}{T:ay}{m n:Nat}{seen:List Nat}(h:bM H T):bM (H++[.kq m n seen]) T:=h.Ol (fun v hm=>by simp at hm)
theorem bM.df {H:List aG}{T T':ay}(h:bM H T)(ht:T.length≤T'.length):bM H T':=fun i us hi v hm=>(h i us hi v hm).more (le_refl _) ht
theorem bM.Pw {H:List aG}{T:ay}{b:aG}{k:Nat}(h:bM H T)(hv:aL H.length T.length b.xq):bM (H.set k b) T:=by
 intro i us hi v hm;rw[List.length_set]
 by_cases hk:k=i
 ·subst hk;have hl:=(List.getElem?_eq_some_iff.1 hi).1;rw[List.length_set] at hl;rw[List.getElem?_set_self hl] at hi
  injection hi with hi
  subst hi;exact hv v hm
 ·rw[List.getElem?_set_ne hk] at hi;exact h i us hi v hm
theorem bM.set {H:List aG}{T:ay}{vs:List AV}{k:Nat}(h:bM H T)(hv:aL H.length T.length vs):bM (H.set k (.cells vs)) T:=h.Pw hv
theorem bM.po {H:List aG}{T:ay}{es:List (cY×AV)}{k:Nat}(h:bM H T)(hv:aL H.length T.length (es.map (·.2))):bM (H.set k (.map es)) T:=h.Pw hv
theorem bM.Qk {H:List aG}{T:ay}{m n:Nat}{seen:List Nat}{k:Nat}(h:bM H T):bM (H.set k (.kq m n seen)) T:=h.Pw (fun v hm=>by simp at hm)
theorem ag {C:Cx}{e e':Env}{H H':List aG}{T T':ay}(rH:List aG)(rT:ay)(hH:H=H'++rH)(hT:T=T'++rT)(hn:C.nb≤H'.length)(ht:C.tb≤T'.length)(ho:bM H' T')(he:b9 H'.length T'.length e e') :
  vK C ⟨e,H,T⟩ ⟨e',H',T'⟩:=⟨hn,ht,⟨rH,hH⟩,⟨rT,hT⟩,ho,G7 he⟩
section
variable {α : Type} (H l : List α) (k : Nat) (x : α)
@[simp] theorem xH:(H++l)[H.length+k]?=l[k]?:=by rw[List.getElem?_append_right (by omega)];congr 1;omega
@[simp] theorem tG:(H++l)[H.length]?=l[0]?:=xH H l 0
@[simp] theorem Nb:(H++l).set (H.length+k) x=H++l.set k x:=by
 rw[List.set_append_right _ _ (by omega)];congr 2;omega
@[simp] theorem qx:(H++l).set H.length x=H++l.set 0 x:=Nb H l 0 x
end
theorem qJ (a b:Nat)(ha:a<18446744073709551616)(hb:b<18446744073709551616):bits .and .u64 (a:Int) (b:Int)=((a &&& b:Nat):Int):=by
 have hx:a &&& b<2 ^ 64:=Nat.and_lt_two_pow _ (by omega);have e1:∀x:Nat,x<18446744073709551616→(BitVec.ofInt 64 (x:Int)).toNat=x:=fun x hx=>by
  rw[BitVec.ofInt_natCast,BitVec.toNat_ofNat];exact Nat.mod_eq_of_lt (by omega)
 show IntKind.u64.wrap ((BitVec.ofInt 64 (a:Int) &&& BitVec.ofInt 64 (b:Int)).toNat:Int)=_;rw[BitVec.toNat_and,e1 a ha,e1 b hb];exact tz (by omega) (by omega)
theorem Dv (a b:Nat)(ha:a<256)(hb:b<256):bits .or .u8 (a:Int) (b:Int)=((a ||| b:Nat):Int):=by
 have hx:a ||| b<2 ^ 8:=Nat.or_lt_two_pow (by omega) (by omega)
 have e1:∀x:Nat,x<256→(BitVec.ofInt 8 (x:Int)).toNat=x:=fun x hx=>by
  rw[BitVec.ofInt_natCast,BitVec.toNat_ofNat];exact Nat.mod_eq_of_lt (by omega)
 show IntKind.u8.wrap ((BitVec.ofInt 8 (a:Int) ||| BitVec.ofInt 8 (b:Int)).toNat:Int)=_;rw[BitVec.toNat_or,e1 a ha,e1 b hb];exact Cm (by omega) (by omega)
theorem aB {D:tu}{next:List dg→List oV→Env→Prop}{o:Oper}{aN:List dg}{sts:List oV}{e:Env}{g:FuncId}{as:List AV}{H:List aG}{T:ay}{v:AV}
  (h:al D.C.P g as H T (Is v H T)) (hn:D.bw.contains aN.length=false) (k:vB D next o aN sts e true v H T):IX D next o aN sts e g as H T:=⟨v,H,T,h,fun _=>⟨rfl,rfl⟩,k⟩
theorem dz {D:tu}{next:List dg→List oV→Env→Prop}{o:Oper}{aN:List dg}{sts:List oV}{e:Env}{g:FuncId}{as:List AV}{H H':List aG}{T T':ay}{v:AV}
  (h:al D.C.P g as H T (Is v H' T')) (hn:D.bw.contains aN.length=true) (k:vB D next o aN sts e true v H' T'):IX D next o aN sts e g as H T:=⟨v,H',T',h,fun hc=>absurd (hn.symm.trans hc) (by decide),k⟩
@[simp] theorem RF {D:tu} {aN:List dg} {sts:List oV} {e:Env}:eD D [] aN sts e=(match sts.getLast? with
  |some (H,T,_)=>D.K ⟨e,H,T⟩
  |none=>False):=rfl
@[simp] theorem QW {D:tu} {o:Oper} {r:List Oper} {aN:List dg} {sts:List oV} {e:Env}:eD D (o::r) aN sts e=(match sts.getLast? with
  |some (H,T,_)=>match o.guard with
   |none=>j5 D (eD D r) o aN sts e H T
   |some (j,want)=>match jD D.all j e with
    |some b=>if b=some want then j5 D (eD D r) o aN sts e H T else vB D (eD D r) o aN sts e false (.cJ []) H T
    |none=>False
  |none=>False):=rfl
attribute [simp] j5 vB Fq Mk Mc eI
@[simp] theorem LB {a b:Int} (h1:0≤a) (h2:0≤b):(a+b).toNat=a.toNat+b.toNat:=by omega
attribute [simp] List.getD_cons_zero List.getD_cons_succ List.getD_nil
attribute [simp] if_pos if_neg List.getElem?_cons_zero List.getElem?_cons_succ List.getElem?_nil
@[simp] theorem UK {a b:Int} (h:0≤b):a.fdiv b=a / b:=Int.fdiv_eq_ediv_of_nonneg a h
@[simp] theorem Ww:IntKind.u64.bits=64:=rfl
@[simp] theorem Zg:IntKind.u8.bits=8:=rfl
@[simp] theorem Wx:IntKind.i64.bits=64:=rfl
@[simp] theorem QP:IntKind.u64.signed=false:=rfl
@[simp] theorem QQ:IntKind.i64.signed=true:=rfl
@[simp] theorem Yo:IntKind.u64.max=18446744073709551615:=rfl
end Go.Am
