/- What PathClean of the reference answers. Condition: not more than two million parts. -/
-- Cut down by a program of this session (wip/tools/prune.py) to what its claim can name.
import Derived.Test.YtochmlkladpfgaaDoorPx3
import Derived.Test.YtochmlkladpfgaaDoorByteP
namespace Go.Proofs.YtochmlkladpfgaaDoor.PathF
open Go Go.RowKit Go.Proofs.YtochmlkladpfgaaDoor.P Go.Proofs.YtochmlkladpfgaaDoor.Lib Go.Proofs.YtochmlkladpfgaaDoor.PathP Go.Proofs.YtochmlkladpfgaaDoorW.PrintWords Go.Proofs.YtochmlkladpfgaaDoorW.PrintLast
set_option linter.unusedVariables false
set_option linter.unusedSimpArgs false

theorem mx_last {α:Type} (l:List α) (h:l.length ≤ 4000000):mx (wrap64 ((l.length:Int) - 1)) 0 = ((l.length - 1:Nat):Int):=by
 rw [w64 (by omega) (by omega)]
 unfold mx
 split <;> omega

theorem spec_loop (x:List ByteArray) (hx:x.length ≤ 2000000) (d:Nat):∀ (i:Int) (o:List ByteArray),0 ≤ i → i ≤ x.length → (x.length:Int) - i ≤ d → (o.length:Int) ≤ i →
  Ev (fun k=>spec_PathClean.l0 k x o i) ((x.drop i.toNat).foldl stepP o):=by
 have hend:∀ (i:Int) (o:List ByteArray),i = x.length → Ev (fun k=>spec_PathClean.l0 k x o i) ((x.drop i.toNat).foldl stepP o):=by
  intro i o hi
  rw [List.drop_of_length_le (by omega)]
  refine Ev.step (f:=fun _=>some o) (fun k=>?_) (Ev.const rfl)
  simp only [spec_PathClean.l0];rw [if_neg (by omega)]
 induction d with
 | zero=>intro i o h0 h1 hd ho;exact hend i o (by omega)
 | succ d ih =>
  intro i o h0 h1 hd ho
  by_cases hlt:i < (x.length:Int)
  rotate_left
  ·exact hend i o (by omega)
  obtain ⟨p,q,hpq⟩:=drop_lt (l:=x) (i:=i.toNat) (by omega)
  have hp:rdOf ByteArray.empty x i = p:=rdOf_get hpq
  have hn:x.drop (i + 1).toNat = q:=by rw [show (i + 1).toNat = i.toNat + 1 by omega];exact drop_next' hpq
  have w1:wrap64 (i + 1) = i + 1:=w64 (by omega) (by omega)
  rw [hpq,List.foldl_cons]
  have hmx:=mx_last o (by omega)
  have I:=fun o' (ho':(o'.length:Int) ≤ i + 1)=>ih (i + 1) o' (by omega) (by omega) (by omega) ho'
  rw [hn] at I
  by_cases hi:Idle p
  ·rw [stepP_idle hi]
   refine Ev.step (f:=fun k=>spec_PathClean.j1 k x o i true) (fun k=>?_) (Ev.step (f:=fun k=>spec_PathClean.l0 k x o (i + 1)) (fun k=>?_) (I o (by omega)))
   ·simp only [spec_PathClean.l0]
    rw [if_pos hlt,if_pos h0,hp]
    rcases hi with hi|hi
    ·rw [if_pos ((toList_nil p).mpr hi)]
    ·rw [if_neg (fun h=>by rw [(toList_nil p).mp h] at hi;cases hi),(toList_dot p).mpr hi];rfl
   ·simp only [spec_PathClean.j1];rw [if_pos trivial,w1]
  ·have e1:¬ p.toList = ([]:List UInt8):=fun h=>hi (.inl ((toList_nil p).mp h))
   have e2:(p.toList == ([46]:List UInt8)) = false:=beq_eq_false_iff_ne.mpr (fun h=>hi (.inr ((toList_dot p).mp h)))
   refine Ev.step (f:=fun k=>spec_PathClean.j1 k x o i false) (fun k=>?_) ?_
   ·simp only [spec_PathClean.l0]
    rw [if_pos hlt,if_pos h0,hp,if_neg e1,e2]
   by_cases hu:Up p
   ·rw [stepP_up hu]
    refine Ev.step (f:=fun k=>spec_PathClean.l0 k x o.dropLast (i + 1)) (fun k=>?_) (I _ (by rw [List.length_dropLast];omega))
    simp only [spec_PathClean.j1]
    rw [if_neg (by simp),if_pos h0,if_pos hlt,hp,if_pos ((toList_dots p).mpr hu),hmx,if_pos (by omega),if_pos (by omega),w1,Int.toNat_natCast,← List.dropLast_eq_take]
   ·rw [stepP_way ⟨hi,hu⟩]
    refine Ev.step (f:=fun k=>spec_PathClean.l0 k x (o ++ [p]) (i + 1)) (fun k=>?_) (I _ (by simp;omega))
    simp only [spec_PathClean.j1]
    rw [if_neg (by simp),if_pos h0,if_pos hlt,hp,if_neg (fun h=>hu ((toList_dots p).mp h)),if_pos (by omega),w1]

theorem spec_ev {x:List ByteArray} (hx:x.length ≤ 2000000):Ev (fun k=>spec_PathClean.f k x) (clean x):=by
 have:=spec_loop x hx x.length 0 [] (by omega) (by omega) (by omega) (by simp)
 simpa [spec_PathClean.f,clean] using this

end Go.Proofs.YtochmlkladpfgaaDoor.PathF
