/- Whether all texts are among such: the law's helper. Condition: not more than a thousand million. -/
import Derived.Test.YtpganphmapdkcaaPx20
import Derived.Test.YtpganphmapdkcaaPathL
namespace Go.Proofs.Ytpganphmapdkcaa.PathL
open Go Go.RowKit Go.Proofs.Ytpganphmapdkcaa.P Go.Proofs.Ytpganphmapdkcaa.Lib Go.Proofs.Ytpganphmapdkcaa.PathP Go.Proofs.Ytpganphmapdkcaa.PathF Go.Proofs.YtpganphmapdkcaaW.PrintWords Go.Proofs.YtpganphmapdkcaaW.PrintLast
set_option linter.unusedVariables false
set_option linter.unusedSimpArgs false

theorem within_loop (a b : List ByteArray) (hx : a.length ≤ 1000000000) (hy : b.length ≤ 1000000000) (hab : ∀ s ∈ a, s ∈ b) (d : Nat) : ∀ i : Int, 0 ≤ i → i ≤ a.length → (a.length : Int) - i ≤ d →
    Ev (fun k => laws_lpWithin.l0 k a b i) true := by
  have hend : ∀ i : Int, i = a.length → Ev (fun k => laws_lpWithin.l0 k a b i) true := by
    intro i hi
    refine Ev.step (f := fun _ => some true) (fun k => ?_) (Ev.const (by simp))
    simp only [laws_lpWithin.l0]; rw [if_neg (by omega)]
  induction d with
  | zero => intro i h0 h1 hd; exact hend i (by omega)
  | succ d ih =>
    intro i h0 h1 hd
    by_cases hlt : i < (a.length : Int)
    rotate_left
    · exact hend i (by omega)
    obtain ⟨p, q, hpq⟩ := drop_lt (l := a) (i := i.toNat) (by omega)
    have w1 : wrap64 (i + 1) = i + 1 := w64 (by omega) (by omega)
    have I := ih (i + 1) (by omega) (by omega) (by omega)
    have hmem : p ∈ b := hab p (by
      have : p ∈ a.drop i.toNat := by rw [hpq]; simp
      exact List.mem_of_mem_drop this)
    have H := has_ev (a := b) (s := p) hy
    rw [isIn_iff.mpr hmem] at H
    refine Ev.step (f := fun k => (laws_lpHas.f k b p).bind fun t => if t = true then laws_lpWithin.l0 k a b (i + 1) else some false) (fun k => ?_) (Ev.bind H (Ev.pos rfl I))
    simp only [laws_lpWithin.l0]
    rw [if_pos hlt, if_pos h0, rdOf_get hpq, w1]
theorem within_ev {a b : List ByteArray} (hx : a.length ≤ 1000000000) (hy : b.length ≤ 1000000000) (hab : ∀ s ∈ a, s ∈ b) : Ev (fun k => laws_lpWithin.f k a b) true := by
  have := within_loop a b hx hy hab a.length 0 (by omega) (by omega) (by omega)
  simpa [laws_lpWithin.f] using this

end Go.Proofs.Ytpganphmapdkcaa.PathL
