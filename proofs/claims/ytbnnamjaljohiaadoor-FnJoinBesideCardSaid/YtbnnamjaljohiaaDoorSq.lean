/- Worlds that came of each other by draws and boxes alone: found as instances of a class at hand. -/
-- Cut down by a program of this session (wip/tools/prune.py) to what its claim can name.
import Derived.Test.YtbnnamjaljohiaaDoorWMore
import Derived.Test.YtbnnamjaljohiaaDoorWLast
namespace Go.Proofs.YtbnnamjaljohiaaDoor.P
open Go Go.RowKit Go.Proofs.YtbnnamjaljohiaaDoorW.PrintWords
structure Wt (W:World):Type where mk ::
structure Wb (W V:World):Type where mk :: (out:Below W.heap.size W V)
instance wb0 (W:World):HXor (Wt W) Unit (Wb W W):=⟨fun _ _=>⟨Below.refl _ _⟩⟩
instance wb1 {W V:World} [i:HXor (Wt V) Unit (Wb W V)] (o:Obj):HXor (Wt (V.alloc o)) Unit (Wb W (V.alloc o)):=⟨fun _ _=>⟨below_alloc (i.hXor ⟨⟩ ()).out o⟩⟩
instance wb2 {W V:World} [i:HXor (Wt V) Unit (Wb W V)] (n:Nat):HXor (Wt (V.drewN n)) Unit (Wb W (V.drewN n)):=⟨fun _ _=>⟨pw_below_drewN (i.hXor ⟨⟩ ()).out n⟩⟩
instance wb3 {W V:World} [i:HXor (Wt V) Unit (Wb W V)]:HXor (Wt V.drew) Unit (Wb W V.drew):=⟨fun _ _=>⟨below_drew1 (i.hXor ⟨⟩ ()).out⟩⟩
instance ws1 (V:World) (o:Obj):HXor (Wt (V.alloc o)) Bool (Wb V (V.alloc o)):=⟨fun _ _=>⟨below_alloc (Below.refl _ _) o⟩⟩
instance ws2 (V:World) (n:Nat):HXor (Wt (V.drewN n)) Bool (Wb V (V.drewN n)):=⟨fun _ _=>⟨pw_below_drewN (Below.refl _ _) n⟩⟩
instance ws3 (V:World):HXor (Wt V.drew) Bool (Wb V V.drew):=⟨fun _ _=>⟨below_drew1 (Below.refl _ _)⟩⟩
theorem bB {W V:World} [i:HXor (Wt V) Unit (Wb W V)] {g:Nat} {o:Obj} (h:W.heap[g]? = some o):V.heap[g]? = some o:=blk_below h (i.hXor ⟨⟩ ()).out
theorem bR {α:Type} {d:Kd α} {e base:Nat} {ok:Nat → Prop} {v:Value} {xs:List α} {W V:World} [i:HXor (Wt V) Unit (Wb W V)] (h:d.R e W base ok v xs):d.R e V base ok v xs:=Kd.R_below h (i.hXor ⟨⟩ ()).out
theorem bA {w W:World} (h:Below w.heap.size w W) (o:Obj):Below w.heap.size w (W.alloc o):=below_alloc h o
theorem bN {B:Nat} {w W:World} (h:Below B w W) (n:Nat):Below B w (W.drewN n):=pw_below_drewN h n
theorem bD {base:Nat} {w W:World} (h:Below base w W):Below base w W.drew:=below_drew1 h
theorem bC {α:Type} {d:Kd α} {xs:List α} {A:Option Addr} {n:Nat} {W V:World} [i:HXor (Wt V) Bool (Wb W V)] (h:d.C W A n xs):d.C V A n xs:=Kd.C_below h (i.hXor ⟨⟩ true).out
theorem bS {w W:World} {g j:Nat} {v:Value} (h:Below w.heap.size w W) (hg:w.heap.size ≤ g):Below w.heap.size w (W.setCell ⟨g,j,none⟩ v):=below_set h hg
theorem bQ {α:Type} {d:Kd α} {e base t g:Nat} {ok:Nat → Prop} {v:Value} {xs:List α} {w:World} {cells:Array Value} (h:d.R e w base ok v xs) (hb:w.heap[g]? = some (.cells cells t (0,0))) (ht:∀ q,q ∈ e :: d.E → q ≠ t) (a b c u:Value) :
  d.R e ((((w.setCell ⟨g,0,none⟩ a).setCell ⟨g,1,none⟩ b).setCell ⟨g,2,none⟩ c).setCell ⟨g,3,none⟩ u) base ok v xs :=
 Kd.R_mono (Kd.R_far (p:=⟨g,3,none⟩) (Kd.R_far (p:=⟨g,2,none⟩) (Kd.R_far (p:=⟨g,1,none⟩) (Kd.R_far (p:=⟨g,0,none⟩) (Kd.R_types h hb ht) (fun _ hk=>hk.2) a) (fun _ hk=>hk.2) b) (fun _ hk=>hk.2) c) (fun _ hk=>hk.2) u) (fun _ h_=>h_.1)
theorem bP {w:World} {g:Nat} {t:TypeId} {a b c d a' b' c' d':Value} (h:w.heap[g]? = some (.cells #[a,b,c,d] t (0,0))):((((w.setCell ⟨g,0,none⟩ a').setCell ⟨g,1,none⟩ b').setCell ⟨g,2,none⟩ c').setCell ⟨g,3,none⟩ d').heap[g]? = some (.cells #[a',b',c',d'] t (0,0)) :=
 blk_put (blk_put (blk_put (blk_put h 0 a' rfl) 1 b' rfl) 2 c' rfl) 3 d' rfl
theorem bF {w:World} {g g':Nat} {t:TypeId} {cs:Array Value} {a b c d:Value} (h:w.heap[g]? = some (.cells cs t (0,0))) (hp:g ≠ g'):((((w.setCell ⟨g',0,none⟩ a).setCell ⟨g',1,none⟩ b).setCell ⟨g',2,none⟩ c).setCell ⟨g',3,none⟩ d).heap[g]? = some (.cells cs t (0,0)) :=
 blk_far (blk_far (blk_far (blk_far h hp a) hp b) hp c) hp d
theorem aE1 {f:Operand → Value} {x:Operand} {v:Value} (h:f x = v):(#[x]).map f = #[v]:=by subst h;simp only [List.map_toArray,List.map_cons,List.map_nil]
theorem aE2 {f:Operand → Value} {x y:Operand} {v u:Value} (h:f x = v) (k:f y = u):(#[x,y]).map f = #[v,u]:=by subst h k;simp only [List.map_toArray,List.map_cons,List.map_nil]
theorem aE3 {f:Operand → Value} {x y z:Operand} {v u t:Value} (h:f x = v) (k:f y = u) (l:f z = t):(#[x,y,z]).map f = #[v,u,t]:=by subst h k l;simp only [List.map_toArray,List.map_cons,List.map_nil]
theorem rA {α:Type} {d:Kd α} {e base:Nat} {ok:Nat → Prop} {v:Value} {xs:List α} {w:World} (h:d.R e w base ok v xs) (o:Obj):d.R e (w.alloc o) base ok v xs:=Kd.R_alloc h o
theorem rN {α:Type} {d:Kd α} {e base:Nat} {ok:Nat → Prop} {v:Value} {xs:List α} {w:World} (h:d.R e w base ok v xs) (m:Nat):d.R e (w.drewN m) base ok v xs:=Kd.R_drewN h m
theorem rD {α:Type} {d:Kd α} {e base:Nat} {ok:Nat → Prop} {v:Value} {xs:List α} {w:World} (h:d.R e w base ok v xs):d.R e w.drew base ok v xs:=Kd.R_drew h
theorem bZ {w:World} {g:Nat} {t:TypeId} {cs:Array Value} (h:w.heap[g]? = some (.cells cs t (0,0))) (i:Nat):w.frozen? ⟨g,i,none⟩ = false:=blk_frozen h i
theorem bM {w:World} {g:Nat} {t:TypeId} {cs:Array Value} {v:Value} (h:w.heap[g]? = some (.cells cs t (0,0))) (i:Nat) (e:cs[i]? = some v):w.cell? ⟨g,i,none⟩ = some v:=(blk_cell h i).trans e
theorem bX {w:World} {g:Nat} {t:TypeId} {a b c d:Value} (h:w.heap[g]? = some (.cells #[a,b,c,d] t (0,0))):w.cell? ⟨g,0,none⟩ = some a ∧ w.cell? ⟨g,1,none⟩ = some b ∧ w.cell? ⟨g,2,none⟩ = some c ∧ w.cell? ⟨g,3,none⟩ = some d ∧ w.frozen? ⟨g,0,none⟩ = false ∧ w.frozen? ⟨g,1,none⟩ = false ∧ w.frozen? ⟨g,2,none⟩ = false ∧ w.frozen? ⟨g,3,none⟩ = false :=
 ⟨blk_cell h 0,blk_cell h 1,blk_cell h 2,blk_cell h 3,blk_frozen h 0,blk_frozen h 1,blk_frozen h 2,blk_frozen h 3⟩
theorem bH {α:Type} {d:Kd α} {e base:Nat} {ok:Nat → Prop} {v:Value} {xs:List α} {W V w1:World} [i:HXor (Wt V) Unit (Wb W V)] (h:Aside0 (d.R e W base ok v xs)) (hb:Below V.heap.size V w1):Aside0 (d.R e w1 base ok v xs):=⟨Kd.R_below (bR h.out) hb⟩
theorem lT {α:Type} (l:List α) (i:Nat) (x:α):l.toArray.setIfInBounds i x = (l.set i x).toArray:=List.setIfInBounds_toArray l i x
theorem lZ {α:Type} {a b:α} {l:List α}:(a :: l).set 0 b = b :: l:=List.set_cons_zero
theorem lS {α:Type} {a b:α} {n:Nat} {l:List α}:(a :: l).set (n + 1) b = a :: l.set n b:=List.set_cons_succ
theorem kN {w W:World} {g:Nat} {row:Option Nat} (h:KeepBut w W g row) (m:Nat):KeepBut w (W.drewN m) g row:=keep_drewN h m
theorem kD {w W:World} {g:Nat} {row:Option Nat} (h:KeepBut w W g row):KeepBut w W.drew g row:=keep_drew h
theorem kA {w W:World} {g:Nat} (h:KeepBut w W g none) (o:Obj):KeepBut w (W.alloc o) g none:=keep_alloc h o
theorem bI {α β:Type} {x:Option α} {f:α → Option β} {b:β} (h:x.bind f = some b):∃ a,x = some a ∧ f a = some b:=Option.bind_eq_some_iff.mp h
theorem oD {p:Prop} [Decidable p] (h:decide p = true):p:=of_decide_eq_true h
theorem bT {w W w2:World} (h:Below w.heap.size w W) (k:Below W.heap.size W w2):Below w.heap.size w w2:=below_step h k
theorem bU {w W:World} (h:Below w.heap.size w W):w.heap.size ≤ W.heap.size:=h.size
theorem Am {p:Prop} (h:p):Aside0 p:=⟨h⟩
end Go.Proofs.YtbnnamjaljohiaaDoor.P
