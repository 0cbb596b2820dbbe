/- What PathClean of the program answers; what the laws' helpers answer. Condition: not more than two million parts. -/
-- Cut down by a program of this session (wip/tools/prune.py) to what its claim can name.
import Derived.Test.YtochmlkladpfgaaDoorPx5
import Derived.Test.YtochmlkladpfgaaDoorPathC
namespace Go.Proofs.YtochmlkladpfgaaDoor.PathI
open Go Go.RowKit Go.Proofs.YtochmlkladpfgaaDoor.P Go.Proofs.YtochmlkladpfgaaDoor.Lib Go.Proofs.YtochmlkladpfgaaDoor.PathP Go.Proofs.YtochmlkladpfgaaDoorW.PrintWords Go.Proofs.YtochmlkladpfgaaDoorW.PrintLast
set_option linter.unusedVariables false
set_option linter.unusedSimpArgs false

theorem impl_loop (x:List ByteArray) (hx:x.length ≤ 2000000) (d:Nat):∀ (i:Int) (o:List ByteArray),0 ≤ i → i ≤ x.length → (x.length:Int) - i ≤ d → (o.length:Int) ≤ i →
  Ev (fun k=>impl_PathClean.l0 k o x (x.length:Int) i) ((x.drop i.toNat).foldl stepP o):=by
 have hend:∀ (i:Int) (o:List ByteArray),i = x.length → Ev (fun k=>impl_PathClean.l0 k o x (x.length:Int) i) ((x.drop i.toNat).foldl stepP o):=by
  intro i o hi
  rw [List.drop_of_length_le (by omega)]
  refine Ev.step (f:=fun _=>some o) (fun k=>?_) (Ev.const rfl)
  simp only [impl_PathClean.l0];rw [if_neg (by omega)]
 induction d with
 | zero=>intro i o h0 h1 hd ho;exact hend i o (by omega)
 | succ d ih =>
  intro i o h0 h1 hd ho
  by_cases hlt:i < (x.length:Int)
  rotate_left
  ·exact hend i o (by omega)
  obtain ⟨p,q,hpq⟩:=drop_lt (l:=x) (i:=i.toNat) (by omega)
  have hp:rdOf ByteArray.empty x i = p:=rdOf_get hpq
  have hn:x.drop (i + 1).toNat = q:=by rw [show (i + 1).toNat = i.toNat + 1 by omega];exact drop_next' hpq
  have w1:wrap64 (i + 1) = i + 1:=w64 (by omega) (by omega)
  rw [hpq,List.foldl_cons]
  have I:=fun o' (ho':(o'.length:Int) ≤ i + 1)=>ih (i + 1) o' (by omega) (by omega) (by omega) ho'
  rw [hn] at I
  have J:∀ b,Ev (fun k=>impl_PathClean.j1 k o p x (x.length:Int) i p b) (q.foldl stepP (stepP o p)) → ((b = true) = Idle p) → Ev (fun k=>impl_PathClean.l0 k o x (x.length:Int) i) (q.foldl stepP (stepP o p)):=by
   intro b hb he
   refine Ev.step (f:=fun k=>impl_PathClean.j1 k o p x (x.length:Int) i p b) (fun k=>?_) hb
   simp only [impl_PathClean.l0]
   rw [if_pos hlt,if_pos h0,if_pos hlt,hp]
   by_cases hnil:L p = []
   ·rw [if_pos ((toList_nil p).mpr hnil),(toList_nil p).mpr hnil]
    have:b = true:=by rw [he];exact .inl hnil
    rw [this];rfl
   ·rw [if_neg (fun h=>hnil ((toList_nil p).mp h))]
    have:(p.toList == ([46]:List UInt8)) = b:=by
     rw [Bool.eq_iff_iff,beq_iff_eq,toList_dot,he]
     exact ⟨.inr,fun h=>h.resolve_left hnil⟩
    rw [this]
  by_cases hi:Idle p
  ·refine J true ?_ (by simp [hi])
   rw [stepP_idle hi]
   refine Ev.step (f:=fun k=>impl_PathClean.l0 k o x (x.length:Int) (i + 1)) (fun k=>?_) (I o (by omega))
   simp only [impl_PathClean.j1];rw [if_pos trivial,w1]
  ·refine J false ?_ (by simp [hi])
   by_cases hu:Up p
   ·rw [stepP_up hu]
    have hu':=(toList_dots p).mpr hu
    by_cases ho0:(o.length:Int) > 0
    ·refine Ev.step (f:=fun k=>impl_PathClean.l0 k o.dropLast x (x.length:Int) (i + 1)) (fun k=>?_) (I _ (by rw [List.length_dropLast];omega))
     simp only [impl_PathClean.j1]
     rw [if_neg (by simp),if_pos hu',if_pos ho0,w64 (x:=(o.length:Int) - 1) (by omega) (by omega),if_pos (by omega),if_pos (by omega),w1,show ((o.length:Int) - 1).toNat = o.length - 1 by omega,← List.dropLast_eq_take]
    ·have:o = []:=List.eq_nil_of_length_eq_zero (by omega)
     subst this
     refine Ev.step (f:=fun k=>impl_PathClean.l0 k [] x (x.length:Int) (i + 1)) (fun k=>?_) (I [] (by simp;omega))
     simp only [impl_PathClean.j1]
     rw [if_neg (by simp),if_pos hu',if_neg ho0,w1]
   ·rw [stepP_way ⟨hi,hu⟩]
    refine Ev.step (f:=fun k=>impl_PathClean.l0 k (o ++ [p]) x (x.length:Int) (i + 1)) (fun k=>?_) (I _ (by simp;omega))
    simp only [impl_PathClean.j1]
    rw [if_neg (by simp),if_neg (fun h=>hu ((toList_dots p).mp h)),if_pos (by omega),w1]

theorem impl_ev {x:List ByteArray} (hx:x.length ≤ 2000000):Ev (fun k=>impl_PathClean.f k x) (clean x):=by
 have:=impl_loop x hx x.length 0 [] (by omega) (by omega) (by omega) (by simp)
 simpa [impl_PathClean.f,clean] using this

end Go.Proofs.YtochmlkladpfgaaDoor.PathI
