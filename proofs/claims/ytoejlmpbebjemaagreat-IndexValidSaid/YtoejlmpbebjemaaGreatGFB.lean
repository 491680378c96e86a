/- slices.Sort and slices.Compact of integers on a box, by the library's contracts. A list of integers that grows in a box; segment.Between (layer 39): one number. segment.Between (layer 39).
  Conditions: lengths below 1000 or 1000, as each theorem says. -/
import Derived.Shelf.Sort.Plain
import Derived.Shelf.Slices.In.SortNone
import Derived.Shelf.Slices.CompactI
import Derived.Test.YtoejlmpbebjemaaGreatAmD
import Derived.Test.YtoejlmpbebjemaaGreatGV
import Derived.Test.YtoejlmpbebjemaaGreatGFA
set_option linter.all false
set_option maxRecDepth 100000
namespace Go.Proofs.YtoejlmpbebjemaaGreat
open Go Go.Am Go.Sort Go.Shelf Go.RowKit Go.Proofs
open Sug Seg Post
def OutB (h:Nat)(d:List Int)(out:AV)(S:List (Nat×Blk)):Prop:=
 (d=[]∧out=.sl 0 [] .full∧S=[])∨∃i cap r,out=.csl i d.length cap∧h≤i∧d.length+r=cap∧S=[(i,.cells (ints d++List.replicate r AV.top))]
structure GI (H:List Blk)(T:Toks)(d:List Int)(R:List (Nat×Blk))(J:List Blk)(out:AV):Prop where
 bx:∃S,OutB H.length d out S∧Has J (R++S)
 pre:Pre H J
 ok:HOk J T
variable {H : List Blk} {T : Toks} {d : List Int} {R : List (Nat × Blk)} {J : List Blk} {out : AV}
theorem GI.nil (ho:HOk H T):GI H T [] [] H (.sl 0 [] .full):=⟨⟨[],.inl ⟨rfl,rfl,rfl⟩,⟨by simp,fun p hp=>by simp at hp⟩⟩,⟨[],by simp⟩,ho⟩
theorem GI.more (h:GI H T d R J out)(b:Blk)(ho:HOk (J++[b]) T):GI H T d ((J.length,b)::R) (J++[b]) out:=by
 obtain⟨⟨S,h1,h2⟩,h3,h4⟩:=h;exact⟨⟨S,h1,(h2.new b).perm (List.perm_append_singleton _ _).symm⟩,h3.app _,ho⟩
theorem GI.less {x:Nat×Blk}(h:GI H T d (x::R) J out):GI H T d R J out:=by
 obtain⟨⟨S,h1,h2⟩,h3,h4⟩:=h;exact⟨⟨S,h1,h2.sub (List.sublist_cons_self _ _)⟩,h3,h4⟩
theorem GI.get (h:GI H T d R J out){i:Nat}{b:Blk}(hm:(i,b)∈R):J[i]?=some b:=by
 obtain⟨⟨S,h1,h2⟩,h3,h4⟩:=h;exact h2.get (List.mem_append_left _ hm)
theorem GI.below (h:GI H T d R J out):Below J.length T.length out:=by
 obtain⟨⟨S,h1,h2⟩,h3,h4⟩:=h;rcases h1 with⟨_,rfl,_⟩|⟨i,cap,r,rfl,hi,hr,rfl⟩
 ·simp
 ·exact below_csl.2 (h2.lt (i:=i) (b:=.cells (ints d++List.replicate r AV.top)) (by simp))
theorem GI.first (h:GI H T [] R J (.sl 0 [] .full))(x:Int)(nc:Nat)(hn:1≤nc):GI H T [x] R (J++[.cells (.int .i64 x::List.replicate (nc-1) AV.top)]) (.csl J.length 1 nc):=by
 obtain⟨⟨S,h1,h2⟩,h3,h4⟩:=h;have hS:S=[]:=by
  rcases h1 with⟨_,_,h⟩|⟨i,cap,r,h,_⟩
  ·exact h
  ·cases h
 subst hS;rw[List.append_nil] at h2;exact⟨⟨_,.inr ⟨J.length,nc,nc-1,rfl,h3.le,by simp only[List.length_singleton];omega,rfl⟩,h2.new _⟩,h3.app _,h4.snoc (by simp)⟩
theorem GI.put {i cap r:Nat}(hb:Has J (R++[(i,.cells (ints d++List.replicate r AV.top))]))(hi:H.length≤i)(hr:d.length+r=cap)(h3:Pre H J)(h4:HOk J T)(hle:d.length+1≤cap)(x:Int) :
  GI H T (d++[x]) R (J.set i (.cells ((ints d++List.replicate r AV.top).take d.length++[.int .i64 x]++(ints d++List.replicate r AV.top).drop (d.length+1)))) (.csl i (d.length+1) cap):=by
 have hl:(ints d).length=d.length:=by simp
 have e1:(ints d++List.replicate r AV.top).take d.length=ints d:=List.take_left' hl;have e2:(ints d++List.replicate r AV.top).drop (d.length+1)=List.replicate (r-1) AV.top:=by
  rw[←List.drop_drop,List.drop_left' hl,List.drop_replicate]
 rw[e1,e2,ints_snoc];exact⟨⟨_,.inr ⟨i,cap,r-1,by simp,hi,by simp;omega,rfl⟩,by simpa using hb.set (A:=R) (B:=[]) (.cells (ints (d++[x])++List.replicate (r-1) AV.top))⟩,h3.set hi _,h4.set (by simp)⟩
theorem GI.grow {i r nc:Nat}(hb:Has J (R++[(i,.cells (ints d++List.replicate r AV.top))]))(h3:Pre H J)(h4:HOk J T)(hn:d.length+1≤nc)(x:Int) :
  GI H T (d++[x]) R (J++[.cells ((ints d++List.replicate r AV.top).take d.length++[.int .i64 x]++List.replicate (nc-(d.length+1)) AV.top)]) (.csl J.length (d.length+1) nc):=by
 have hl:(ints d).length=d.length:=by simp
 have e1:(ints d++List.replicate r AV.top).take d.length=ints d:=List.take_left' hl;rw[e1,ints_snoc];exact⟨⟨_,.inr ⟨J.length,nc,nc-(d.length+1),by simp,h3.le,by simp;omega,rfl⟩,(hb.sub (List.sublist_append_left _ _)).new _⟩,h3.app _,h4.snoc (by simp)⟩
end Go.Proofs.YtoejlmpbebjemaaGreat
