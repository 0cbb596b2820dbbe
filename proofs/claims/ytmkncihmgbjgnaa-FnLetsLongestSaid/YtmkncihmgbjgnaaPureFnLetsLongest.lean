/- The longest that has the way says it, and one that lets suffices. Condition: none. -/
import Derived.Test.YtmkncihmgbjgnaaPx0
import Derived.Test.YtmkncihmgbjgnaaPx18
import Derived.Test.YtmkncihmgbjgnaaPx5
import Derived.Test.YtmkncihmgbjgnaaLetsS
namespace Go.Proofs.Ytmkncihmgbjgnaa.Pure
open Go hiding stepT
open Go.RowKit Go.Proofs.Ytmkncihmgbjgnaa.P Go.Proofs.Ytmkncihmgbjgnaa.Lib Go.Proofs.Ytmkncihmgbjgnaa.LetsF Go.Proofs.Ytmkncihmgbjgnaa.LetsD Go.Proofs.YtmkncihmgbjgnaaW.PrintWords Go.Proofs.YtmkncihmgbjgnaaW.PrintLast
set_option linter.unusedVariables false
set_option linter.unusedSimpArgs false

theorem longest_first (s : ByteArray) (x : List S38) (hx : x.length ≤ 1000) (v : Bool) {b : Bool}
    (next : Ev (fun k => laws_FnLetsLongest.l1 k x s v (lg s x) (lg s x == 0) 0) b) (d : Nat) : ∀ i : Int, 0 ≤ i → i ≤ x.length → (x.length : Int) - i ≤ d →
    Ev (fun k => laws_FnLetsLongest.l0 k x s v (lg s (x.take i.toNat)) i) b := by
  have hend : ∀ i : Int, i = x.length → Ev (fun k => laws_FnLetsLongest.l0 k x s v (lg s (x.take i.toNat)) i) b := by
    intro i hi
    rw [List.take_of_length_le (by omega)]
    exact Ev.step (fun k => by rw [laws_FnLetsLongest.l0, if_neg (by omega)]) next
  induction d with
  | zero => intro i h0 h1 hd; exact hend i (by omega)
  | succ d ih =>
    intro i h0 h1 hd
    by_cases hlt : i < (x.length : Int)
    rotate_left
    · exact hend i (by omega)
    obtain ⟨r, q, hr⟩ := drop_lt (l := x) (i := i.toNat) (by omega)
    have hrd : rd_T38 x i = r := rd_at hr
    have I := ih (i + 1) (by omega) (by omega) (by omega)
    rw [show (i + 1).toNat = i.toNat + 1 by omega, take_next hr, lg_append, lg_one] at I
    have w1 : wrap64 (i + 1) = i + 1 := w64 (by omega) (by omega)
    generalize x.take i.toNat = P at I ⊢
    have hn := lg_nonneg s P
    have step : ∀ k, laws_FnLetsLongest.l0 (k + 1) x s v (lg s P) i = (impl_RuleHas.f k r.f1 s).bind fun t390 => (if t390 = true then (laws_FnLetsLongest.l0 k x s v (mx (lg s P) (rsz r)) (i + 1)) else (laws_FnLetsLongest.l0 k x s v (lg s P) (i + 1))) := by
      intro k
      rw [laws_FnLetsLongest.l0, if_pos hlt, if_pos h0, hrd, w1]; rfl
    refine Ev.step step (Ev.bind (HasV.impl_ev r.f1 s) ?_)
    by_cases hh : hs s r = true
    · rw [if_pos hh] at I
      have hp := hs_pos hh
      have e : mx (lg s P) (rsz r) = max (lg s P) (max (rsz r) 0) := by unfold mx; split <;> omega
      refine Ev.pos hh ?_
      rw [e]; exact I
    · rw [if_neg hh] at I
      have e : max (lg s P) 0 = lg s P := by omega
      rw [e] at I
      exact Ev.neg hh I

theorem longest_next (s : ByteArray) (x : List S38) (hx : x.length ≤ 1000) (m : Int) (v : Bool) (d : Nat) : ∀ i : Int, 0 ≤ i → i ≤ x.length → (x.length : Int) - i ≤ d →
    Ev (fun k => laws_FnLetsLongest.l1 k x s v m ((m == 0) || an s m (x.take i.toNat)) i) (v == ((m == 0) || an s m x)) := by
  have hend : ∀ i : Int, i = x.length → Ev (fun k => laws_FnLetsLongest.l1 k x s v m ((m == 0) || an s m (x.take i.toNat)) i) (v == ((m == 0) || an s m x)) := by
    intro i hi
    rw [List.take_of_length_le (by omega)]
    exact Ev.step (f := fun _ => some (v == ((m == 0) || an s m x))) (fun k => by rw [laws_FnLetsLongest.l1, if_neg (by omega)]) (Ev.const rfl)
  induction d with
  | zero => intro i h0 h1 hd; exact hend i (by omega)
  | succ d ih =>
    intro i h0 h1 hd
    by_cases hlt : i < (x.length : Int)
    rotate_left
    · exact hend i (by omega)
    obtain ⟨r, q, hr⟩ := drop_lt (l := x) (i := i.toNat) (by omega)
    have hrd : rd_T38 x i = r := rd_at hr
    have I := ih (i + 1) (by omega) (by omega) (by omega)
    rw [show (i + 1).toNat = i.toNat + 1 by omega, take_next hr, an_append, an_one, ← Bool.or_assoc] at I
    have w1 : wrap64 (i + 1) = i + 1 := w64 (by omega) (by omega)
    generalize x.take i.toNat = P at I ⊢
    generalize ((m == 0) || an s m P) = y at I ⊢
    have step : ∀ k, laws_FnLetsLongest.l1 (k + 1) x s v m y i = if y = true then (laws_FnLetsLongest.l1 k x s v m true (i + 1)) else (if r.f0 = true then (if rsz r = m then ((impl_RuleHas.f k r.f1 s).bind fun t395 => (laws_FnLetsLongest.l1 k x s v m t395 (i + 1))) else (laws_FnLetsLongest.l1 k x s v m false (i + 1))) else (laws_FnLetsLongest.l1 k x s v m false (i + 1))) := by
      intro k
      rw [laws_FnLetsLongest.l1, if_pos hlt, if_pos h0, hrd, w1]; rfl
    refine Ev.step step ?_
    cases y with
    | true => rw [Bool.true_or] at I; exact Ev.pos rfl I
    | false =>
      rw [Bool.false_or] at I
      refine Ev.neg Bool.false_ne_true ?_
      cases hf : r.f0 with
      | false => rw [hf, Bool.false_and, Bool.false_and] at I; exact Ev.neg Bool.false_ne_true I
      | true =>
        rw [hf, Bool.true_and] at I
        refine Ev.pos rfl ?_
        by_cases hm : rsz r = m
        · rw [decide_eq_true hm, Bool.true_and] at I
          exact Ev.pos hm (Ev.bind (HasV.impl_ev r.f1 s) I)
        · rw [decide_eq_false hm, Bool.false_and] at I
          exact Ev.neg hm I

theorem FnLetsLongest : laws_FnLetsLongest.Pure := by
  intro l hm hb hw
  apply Ev.rounds
  unfold laws_FnLetsLongest.f
  by_cases h : (l.length : Int) > 1048576
  · exact Ev.pos h (Ev.const rfl)
  obtain ⟨x, s, hd, hx⟩ := drawn hw
  have N := longest_next s x (by omega) (lg s x) (lets s x) x.length 0 (by omega) (by omega) (by omega)
  rw [Int.toNat_zero, List.take_zero, show an s (lg s x) [] = false from rfl, Bool.or_false] at N
  have e : lets s x = ((lg s x == 0) || an s (lg s x) x) := by
    unfold lets
    congr 1
  rw [← e] at N
  have F := longest_first s x (by omega) (lets s x) N x.length 0 (by omega) (by omega) (by omega)
  rw [show (lets s x == lets s x) = true by simp] at F
  exact Ev.neg h (Ev.bind hd (Ev.bind (LetsF.impl_ev s (x := x) (by omega)) (Ev.bind (LetsF.spec_ev s (x := x) (by omega)) (Ev.neg (by simp) F))))

end Go.Proofs.Ytmkncihmgbjgnaa.Pure
