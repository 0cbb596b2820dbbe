/- What the laws' helpers on lists of strings answer: is it among them, are all. Condition: not more than a thousand million. -/
import Derived.Test.YtpganphmapdkcaaPx20
import Derived.Test.YtpganphmapdkcaaPathF
namespace Go.Proofs.Ytpganphmapdkcaa.PathL
open Go Go.RowKit Go.Proofs.Ytpganphmapdkcaa.P Go.Proofs.Ytpganphmapdkcaa.Lib Go.Proofs.Ytpganphmapdkcaa.PathP Go.Proofs.Ytpganphmapdkcaa.PathF Go.Proofs.YtpganphmapdkcaaW.PrintWords Go.Proofs.YtpganphmapdkcaaW.PrintLast
set_option linter.unusedVariables false
set_option linter.unusedSimpArgs false

/-- Is a text among such? -/
def isIn (s : ByteArray) (a : List ByteArray) : Bool := a.any fun p => decide (p = s)
theorem isIn_iff {s : ByteArray} {a : List ByteArray} : isIn s a = true ↔ s ∈ a := by
  unfold isIn
  rw [List.any_eq_true]
  constructor
  · rintro ⟨p, hp, h⟩
    rw [decide_eq_true_eq] at h; subst h; exact hp
  · intro h; exact ⟨s, h, decide_eq_true rfl⟩
theorem has_loop (a : List ByteArray) (s : ByteArray) (hx : a.length ≤ 1000000000) (d : Nat) : ∀ i : Int, 0 ≤ i → i ≤ a.length → (a.length : Int) - i ≤ d →
    Ev (fun k => laws_lpHas.l0 k a s i) (isIn s (a.drop i.toNat)) := by
  have hend : ∀ i : Int, i = a.length → Ev (fun k => laws_lpHas.l0 k a s i) (isIn s (a.drop i.toNat)) := by
    intro i hi
    rw [List.drop_of_length_le (by omega)]
    refine Ev.step (f := fun _ => some false) (fun k => ?_) (Ev.const (by simp [isIn]))
    simp only [laws_lpHas.l0]; rw [if_neg (by omega)]
  induction d with
  | zero => intro i h0 h1 hd; exact hend i (by omega)
  | succ d ih =>
    intro i h0 h1 hd
    by_cases hlt : i < (a.length : Int)
    rotate_left
    · exact hend i (by omega)
    obtain ⟨p, q, hpq⟩ := drop_lt (l := a) (i := i.toNat) (by omega)
    have w1 : wrap64 (i + 1) = i + 1 := w64 (by omega) (by omega)
    have hn : a.drop (i + 1).toNat = q := by rw [show (i + 1).toNat = i.toNat + 1 by omega]; exact drop_next' hpq
    have I := ih (i + 1) (by omega) (by omega) (by omega)
    rw [hn] at I
    rw [hpq]
    by_cases hp : p = s
    · have : isIn s (p :: q) = true := by simp [isIn, hp]
      rw [this]
      refine Ev.step (f := fun _ => some true) (fun k => ?_) (Ev.const rfl)
      simp only [laws_lpHas.l0]
      rw [if_pos hlt, if_pos h0, rdOf_get hpq, if_pos (by rw [hp])]
    · have : isIn s (p :: q) = isIn s q := by simp [isIn, hp]
      rw [this]
      refine Ev.step (f := fun k => laws_lpHas.l0 k a s (i + 1)) (fun k => ?_) I
      simp only [laws_lpHas.l0]
      rw [if_pos hlt, if_pos h0, rdOf_get hpq, if_neg (fun h => hp (toList_inj h)), w1]
theorem has_ev {a : List ByteArray} {s : ByteArray} (hx : a.length ≤ 1000000000) : Ev (fun k => laws_lpHas.f k a s) (isIn s a) := by
  have := has_loop a s hx a.length 0 (by omega) (by omega) (by omega)
  simpa [laws_lpHas.f] using this

end Go.Proofs.Ytpganphmapdkcaa.PathL
