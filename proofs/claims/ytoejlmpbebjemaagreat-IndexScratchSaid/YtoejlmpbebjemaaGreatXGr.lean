/- Lists of rows that grow in a box.
  Conditions: none. -/
import Derived.Test.YtoejlmpbebjemaaGreatGBA
set_option linter.all false
set_option maxRecDepth 100000
namespace Go.Proofs.YtoejlmpbebjemaaGreat
open Go Go.Am ie cN eN
section
variable {α : Type} {f : α -> List AV} {k : Nat} {H J : List aA} {T : au} {d : List α} {out : AV}
def afK (f:α->List AV)(k h:Nat)(d:List α)(out:AV)(J:List aA):Prop:=
 (d=[]/\out=.sl 0 [] .full)\/∃b cap,out=.bQ b d.length cap/\h<=b/\d.length<=cap/\J[b]?=some (.cells (d.flatMap f++List.replicate ((cap-d.length)*k) AV.top))
structure GR (f:α->List AV)(k:Nat)(H:List aA)(T:au)(d:List α)(J:List aA)(out:AV):Prop where
 o:afK f k H.length d out J
 pre:gW H J
 ok:bM J T
def GR.nil (ho:bM H T):GR f k H T [] H (.sl 0 [] .full):=⟨.inl ⟨rfl,rfl⟩,⟨[],zS⟩,ho⟩
def GR.more (h:GR f k H T d J out)(b:aA)(ho:bM (J++[b]) T):GR f k H T d (J++[b]) out:=by
 refine⟨?_,h.pre.app _,ho⟩;rcases h.o with h1|⟨i,cap,h1,h2,h3,h4⟩
 ·exact .inl h1
 ·exact .inr ⟨i,cap,h1,h2,h3,by rw[ahB (aht.1 h4).1];exact h4⟩
def GR.below (h:GR f k H T d J out):Below J.length T.length out:=by
 rcases h.o with⟨_,rfl⟩|⟨i,cap,rfl,h2,h3,h4⟩
 ·simp
 ·exact Bf.2 (aht.1 h4).1
def sI {n t m:Nat}(hf:∀x,aL n t (f x)):aL n t (d.flatMap f++List.replicate m AV.top):=λv hv=>by
 rcases ahI.1 hv with h|h
 ·obtain⟨x,_,h⟩:=ah7.1 h;exact hf x v h
 ·rw[(List.mem_replicate.1 h).2];exact .top
def GR.first (hf:∀n t x,aL n t (f x))(h:GR f k H T [] J (.sl 0 [] .full))(ws:List α)(nc:Nat)(hn:ws.length<=nc):GR f k H T ws (J++[.cells (ws.flatMap f++List.replicate ((nc-ws.length)*k) AV.top)]) (.bQ J.length ws.length nc):=
 ⟨.inr ⟨J.length,nc,rfl,h.pre.le,hn,zS⟩,h.pre.app _,h.ok.snoc (sI (hf _ _))⟩
def GR.put (hk:eE f k)(hf:∀n t x,aL n t (f x)){b cap:Nat}(hb:J[b]?=some (.cells (d.flatMap f++List.replicate ((cap-d.length)*k) AV.top)))(hi:H.length<=b)(h3:gW H J)(h4:bM J T)(ws:List α)(hle:d.length+ws.length<=cap) :
  GR f k H T (d++ws) (J.set b (.cells ((d.flatMap f++List.replicate ((cap-d.length)*k) AV.top).take (d.length*k)++ws.flatMap f++(d.flatMap f++List.replicate ((cap-d.length)*k) AV.top).drop ((d.length+ws.length)*k)))) (.bQ b (d.length+ws.length) cap):=by
 have hl:(d.flatMap f).length=d.length*k:=cj hk d;have e1:(d.flatMap f++List.replicate ((cap-d.length)*k) AV.top).take (d.length*k)=d.flatMap f:=aiy hl;have e2:(d.flatMap f++List.replicate ((cap-d.length)*k) AV.top).drop ((d.length+ws.length)*k)=List.replicate ((cap-(d.length+ws.length))*k) AV.top:=by
  rw[aiM,<-List.drop_drop,List.drop_left' hl,List.drop_replicate,<-Nat.sub_mul]
  congr 2;omega
 rw[e1,e2,<-List.flatMap_append];refine⟨.inr ⟨b,cap,by rw[ahw],hi,by rw[ahw];exact hle,?_⟩,h3.set hi _,h4.set (sI (hf _ _))⟩;rw[ahZ (aht.1 hb).1,ahw]
def GR.grow (hk:eE f k)(hf:∀n t x,aL n t (f x)){b cap nc:Nat}(hb:J[b]?=some (.cells (d.flatMap f++List.replicate ((cap-d.length)*k) AV.top)))(h3:gW H J)(h4:bM J T)(ws:List α)(hn:d.length+ws.length<=nc) :
  GR f k H T (d++ws) (J++[.cells ((d.flatMap f++List.replicate ((cap-d.length)*k) AV.top).take (d.length*k)++ws.flatMap f++List.replicate ((nc-(d.length+ws.length))*k) AV.top)]) (.bQ J.length (d.length+ws.length) nc):=by
 have e1:(d.flatMap f++List.replicate ((cap-d.length)*k) AV.top).take (d.length*k)=d.flatMap f:=aiy (cj hk d);rw[e1,<-List.flatMap_append];exact⟨.inr ⟨J.length,nc,by rw[ahw],h3.le,by rw[ahw];exact hn,by rw[ahP (ahv _),aiT,ahw];rfl⟩,h3.app _,h4.snoc (sI (hf _ _))⟩
end
end Go.Proofs.YtoejlmpbebjemaaGreat
