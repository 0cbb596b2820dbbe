-- Written by a program of this session (patch_print.py over the kit's print; given texts in wip/given).
-- Cut down by a program of this session (wip/tools/prune.py) to what its claim can name.
import Derived.Test.YtochmlkladpfgaaDoorPx0
namespace Go.Proofs.YtochmlkladpfgaaDoor.P
open Go.RowKit Go.Proofs.YtochmlkladpfgaaDoorW.PrintWords Go.Proofs.YtochmlkladpfgaaDoorW.PrintLast Go.Proofs.YtochmlkladpfgaaDoorW.PrintMore
attribute [local go_sem] max2_int min2_int max_two min_two max_three min_three max_four min_four   -- for this text's walks alone
set_option linter.unusedVariables false
set_option linter.unusedSimpArgs false

/-- A state of type 55 at block g of W; what its slices lead to came in by w0. -/
def IsS55 (w0 W:World) (g:Nat) (f0:List Int) (f1:Int):Prop:=∃ A0 c0,W.heap[g]? = some (.cells #[.slice A0 f0.length c0, .int .i64 f1] 55 (0,0)) ∧ w0.heap.size ≤ g ∧ Kd.C (Kd.int .u8) w0 A0 f0.length f0
theorem IsS55.grown {w0 W:World} {g:Nat} {f0:List Int} {f1:Int} {W1:World} {row:Option Nat} (h:IsS55 w0 W g f0 f1) (hw:W.grownBy W1 row) (hne:some g ≠ row):IsS55 w0 W1 g f0 f1:=by
 obtain ⟨A0,c0,hb,hg,hr0⟩:=h
 exact ⟨A0,c0,blk_grown hb hw hne,hg,hr0⟩
theorem IsS55.kept {w0 W:World} {g:Nat} {f0:List Int} {f1:Int} {W1:World} {S:Nat → Prop} (h:IsS55 w0 W g f0 f1) (hk:Kept W W1 S) (hne:¬ S g):IsS55 w0 W1 g f0 f1:=by
 obtain ⟨A0,c0,hb,hg,hr0⟩:=h
 exact ⟨A0,c0,blk_kept hb hk hne,hg,hr0⟩
theorem IsS55.below {w0 W:World} {g:Nat} {f0:List Int} {f1:Int} {W1:World} (h:IsS55 w0 W g f0 f1) (hw:Below W.heap.size W W1):IsS55 w0 W1 g f0 f1:=h.grown (grown_of_below hw none) (by simp)
theorem IsS55.alloc {w0 W:World} {g:Nat} {f0:List Int} {f1:Int} (h:IsS55 w0 W g f0 f1) (o:Obj):IsS55 w0 (W.alloc o) g f0 f1:=h.below (below_alloc (Below.refl _ _) o)
theorem IsS55.drewN {w0 W:World} {g:Nat} {f0:List Int} {f1:Int} (h:IsS55 w0 W g f0 f1) (m:Nat):IsS55 w0 (W.drewN m) g f0 f1:=h
theorem IsS55.drew {w0 W:World} {g:Nat} {f0:List Int} {f1:Int} (h:IsS55 w0 W g f0 f1):IsS55 w0 W.drew g f0 f1:=h
theorem IsS55.at_ {w0 W:World} {g:Nat} {f0:List Int} {f1:Int} {w':World} {m:Nat} (hq:W.drewN m = w') (h:IsS55 w0 W g f0 f1):IsS55 w0 w' g f0 f1:=by subst hq;exact IsS55.drewN h m
theorem IsS55.apart {w0 W:World} {g:Nat} {f0:List Int} {f1:Int} {α:Type} {d:Kd α} {e:Nat} {base:Nat} {ok:Nat → Prop} {v:Value} {xs:List α} (h:IsS55 w0 W g f0 f1) (ho:d.R e W base ok v xs) (ht:∀ q,q ∈ e :: d.E → q ≠ 55):d.R e W base (fun k=>ok k ∧ k ≠ g) v xs:=by
 obtain ⟨A0,c0,hb,hg,hr0⟩:=h
 exact Kd.R_types ho hb ht
theorem IsS55.own_ne {w0 W:World} {g:Nat} {f0:List Int} {f1:Int} {α:Type} {d:Kd α} {e:Nat} {base:Nat} {ok:Nat → Prop} {v:Value} {xs:List α} (h:IsS55 w0 W g f0 f1) (ho:d.R e W base ok v xs) (ht:e ≠ 55):some g ≠ v.ownBlock:=by
 obtain ⟨A0,c0,hb,hg,hr0⟩:=h
 exact Kd.R_ne ho hb ht
theorem IsS55.lt {w0 W:World} {g:Nat} {f0:List Int} {f1:Int} (h:IsS55 w0 W g f0 f1):g < W.heap.size:=by
 obtain ⟨A0,c0,hb,hg,hr0⟩:=h
 exact blk_lt hb
theorem IsS55.ge {w0 W:World} {g:Nat} {f0:List Int} {f1:Int} (h:IsS55 w0 W g f0 f1):w0.heap.size ≤ g:=by
 obtain ⟨A0,c0,hb,hg,hr0⟩:=h
 exact hg
theorem IsS55.far {w0 W:World} {g:Nat} {f0:List Int} {f1:Int} {p:Addr} (h:IsS55 w0 W g f0 f1) (hne:g ≠ p.block) (u:Value):IsS55 w0 (W.setCell p u) g f0 f1:=by
 obtain ⟨A0,c0,hb,hg,hr0⟩:=h
 exact ⟨A0,c0,blk_far hb hne u,hg,hr0⟩
theorem cellS55_0 {W:World} {g:Nat} {A0:Option Addr} {c0:Nat} {f0:List Int} {f1:Int} (h:W.heap[g]? = some (.cells #[.slice A0 f0.length c0, .int .i64 f1] 55 (0,0))):W.cell? ⟨g,0,none⟩ = some (.slice A0 f0.length c0):=(blk_cell h 0).trans rfl
theorem cellS55_1 {W:World} {g:Nat} {A0:Option Addr} {c0:Nat} {f0:List Int} {f1:Int} (h:W.heap[g]? = some (.cells #[.slice A0 f0.length c0, .int .i64 f1] 55 (0,0))):W.cell? ⟨g,1,none⟩ = some (.int .i64 f1):=(blk_cell h 1).trans rfl
theorem IsS55.set_1 {w0 W:World} {g:Nat} {f0:List Int} {f1:Int} (h:IsS55 w0 W g f0 f1) (x:Int):IsS55 w0 (W.setCell ⟨g,1,none⟩ (.int .i64 x)) g f0 x:=by
 obtain ⟨A0,c0,hb,hg,hr0⟩:=h
 exact ⟨A0,c0,by simpa using blk_set hb 1 (.int .i64 x),hg,hr0⟩
theorem IsS55.new (w0 W:World) (A0:Option Addr) (c0:Nat) (f0:List Int) (f1:Int) (hB:Below w0.heap.size w0 W) (hr0:Kd.C (Kd.int .u8) w0 A0 f0.length f0):IsS55 w0 (W.alloc (.cells #[.slice A0 f0.length c0, .int .i64 f1] 55)) W.heap.size f0 f1:=⟨A0,c0,by simpa using heap_alloc_new W _,hB.size,hr0⟩


end Go.Proofs.YtochmlkladpfgaaDoor.P
