/- Neither their order nor their being said twice matters; and no rule lets. Condition: none. -/
import Derived.Test.YtmkncihmgbjgnaaPx0
import Derived.Test.YtmkncihmgbjgnaaPx13
import Derived.Test.YtmkncihmgbjgnaaPx19
import Derived.Test.YtmkncihmgbjgnaaLetsS
namespace Go.Proofs.Ytmkncihmgbjgnaa.Pure
open Go hiding stepT
open Go.RowKit Go.Proofs.Ytmkncihmgbjgnaa.P Go.Proofs.Ytmkncihmgbjgnaa.Lib Go.Proofs.Ytmkncihmgbjgnaa.LetsF Go.Proofs.Ytmkncihmgbjgnaa.LetsD Go.Proofs.YtmkncihmgbjgnaaW.PrintWords Go.Proofs.YtmkncihmgbjgnaaW.PrintLast
set_option linter.unusedVariables false
set_option linter.unusedSimpArgs false

theorem order_loop (s : ByteArray) (x : List S38) (hx : x.length ≤ 1000) (d : Nat) : ∀ (i : Int) (o : List S38), -1 ≤ i → i < x.length → i + 1 ≤ d → o = (x.drop (i + 1).toNat).reverse →
    Ev (fun k => laws_FnLetsOrder.l0 k x s (lets s x) o i) true := by
  have hend : ∀ o : List S38, o = x.reverse → Ev (fun k => laws_FnLetsOrder.l0 k x s (lets s x) o (-1)) true := by
    intro o ho
    subst ho
    have step : ∀ k, laws_FnLetsOrder.l0 (k + 1) x s (lets s x) x.reverse (-1) = (impl_RuleLets.f k x.reverse s).bind fun t409 => (if (t409 == lets s x) = true then (if x.reverse.length + x.length < 5864062014805 then ((impl_RuleLets.f k (x.reverse ++ x) s).bind fun t413 => (if (t413 == lets s x) = true then ((impl_RuleLets.f k ([] : List (S38)) s).bind fun t414 => (some t414)) else (some false))) else (none)) else (some false)) := by
      intro k
      rw [laws_FnLetsOrder.l0, if_neg (by omega)]
    have I1 := LetsF.impl_ev s (x := x.reverse) (by rw [List.length_reverse]; omega)
    have I2 := LetsF.impl_ev s (x := x.reverse ++ x) (by rw [List.length_append, List.length_reverse]; omega)
    have I3 := LetsF.impl_ev s (x := []) (Nat.zero_le _)
    rw [lets_reverse] at I1
    rw [lets_twice] at I2
    rw [show lets s [] = true from rfl] at I3
    exact Ev.step step (Ev.bind I1 (Ev.pos (by simp) (Ev.pos (by rw [List.length_reverse]; omega) (Ev.bind I2 (Ev.pos (by simp) (Ev.bind I3 (Ev.const rfl)))))))
  induction d with
  | zero =>
    intro i o h0 h1 hd ho
    obtain rfl : i = -1 := by omega
    exact hend o (by simpa using ho)
  | succ d ih =>
    intro i o h0 h1 hd ho
    by_cases hz : i = -1
    · subst hz; exact hend o (by simpa using ho)
    obtain ⟨r, q, hr⟩ := drop_lt (l := x) (i := i.toNat) (by omega)
    have hrd : rd_T38 x i = r := rd_at hr
    have hn : x.drop (i + 1).toNat = q := by rw [show (i + 1).toNat = i.toNat + 1 by omega]; exact drop_next' hr
    have w1 : wrap64 (i - 1) = i - 1 := w64 (by omega) (by omega)
    have hol : o.length < 5864062014805 := by
      rw [ho, List.length_reverse, List.length_drop]; omega
    have I := ih (i - 1) (o ++ [r]) (by omega) (by omega) (by omega) (by
      rw [show (i - 1 + 1).toNat = i.toNat by omega, hr, ho, hn, List.reverse_cons])
    have g1 : i ≥ 0 := by omega
    exact Ev.step (fun k => by rw [laws_FnLetsOrder.l0, if_pos g1, if_pos g1, if_pos h1, if_pos hol, hrd, w1]) I

theorem FnLetsOrder : laws_FnLetsOrder.Pure := by
  intro l hm hb hw
  apply Ev.rounds
  unfold laws_FnLetsOrder.f
  by_cases h : (l.length : Int) > 1048576
  · exact Ev.pos h (Ev.const rfl)
  obtain ⟨x, s, hd, hx⟩ := drawn hw
  have w1 : wrap64 ((x.length : Int) - 1) = (x.length : Int) - 1 := w64 (by omega) (by omega)
  have O := order_loop s x (by omega) x.length ((x.length : Int) - 1) [] (by omega) (by omega) (by omega) (by
    rw [List.drop_of_length_le (by omega)]; rfl)
  refine Ev.neg h (Ev.bind hd (Ev.bind (LetsF.impl_ev s (x := x) (by omega)) (Ev.bind (LetsF.spec_ev s (x := x) (by omega)) (Ev.neg (by simp) ?_))))
  simp only [w1]
  exact O

end Go.Proofs.Ytmkncihmgbjgnaa.Pure
