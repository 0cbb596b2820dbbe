/- What program and reference tell of rules: one function of lists. Condition: texts of at most four thousand bytes. -/
import Derived.Test.YtmkncihmgbjgnaaPx0
import Derived.Test.YtmkncihmgbjgnaaPx13
import Derived.Test.YtmkncihmgbjgnaaPx3
import Derived.Test.YtmkncihmgbjgnaaPx5
import Derived.Test.YtmkncihmgbjgnaaHasS
namespace Go.Proofs.Ytmkncihmgbjgnaa.LetsF
open Go hiding stepT
open Go.RowKit Go.Proofs.Ytmkncihmgbjgnaa.P Go.Proofs.Ytmkncihmgbjgnaa.Lib Go.Proofs.Ytmkncihmgbjgnaa.CutP Go.Proofs.Ytmkncihmgbjgnaa.HasI Go.Proofs.Ytmkncihmgbjgnaa.RuleOkF Go.Proofs.YtmkncihmgbjgnaaW.PrintWords Go.Proofs.YtmkncihmgbjgnaaW.PrintLast
set_option linter.unusedVariables false
set_option linter.unusedSimpArgs false

def rsz (r : S38) : Int := (r.f1.size : Int)
def hs (s : ByteArray) (r : S38) : Bool := ruleHas (L r.f1) (L s)
def lg (s : ByteArray) : List S38 → Int
  | [] => 0
  | r :: l => if hs s r = true then max (rsz r) (lg s l) else lg s l
def an (s : ByteArray) (m : Int) (l : List S38) : Bool := l.any fun r => r.f0 && decide (rsz r = m) && hs s r
def lets (s : ByteArray) (l : List S38) : Bool := decide (lg s l = 0) || an s (lg s l) l

theorem lg_nonneg (s : ByteArray) (l : List S38) : 0 ≤ lg s l := by
  induction l with
  | nil => exact Int.le_refl 0
  | cons r l ih => simp only [lg]; split <;> omega
theorem lg_append (s : ByteArray) (a b : List S38) : lg s (a ++ b) = max (lg s a) (lg s b) := by
  induction a with
  | nil => have := lg_nonneg s b; simp only [List.nil_append, lg]; omega
  | cons r a ih => simp only [List.cons_append, lg]; split <;> omega
theorem lg_mem {s : ByteArray} {l : List S38} {r : S38} (h : r ∈ l) (hr : hs s r = true) : rsz r ≤ lg s l := by
  induction l with
  | nil => cases h
  | cons q l ih =>
    simp only [lg]
    rcases List.mem_cons.mp h with rfl | h
    · rw [if_pos hr]; omega
    · have := ih h; split <;> omega
theorem ruleOk_one {p : T} (h : ruleOk p = true) : 1 ≤ p.length := by
  unfold ruleOk at h
  simp only [Bool.and_eq_true, decide_eq_true_eq, and_assoc] at h
  exact h.1
theorem ruleHas_one {p s : T} (h : ruleHas p s = true) : ruleOk p = true := by
  unfold ruleHas at h
  simp only [Bool.and_eq_true] at h
  exact h.1.1
theorem hs_pos {s : ByteArray} {r : S38} (h : hs s r = true) : 1 ≤ rsz r := by
  have h1 := ruleOk_one (ruleHas_one h)
  rw [L_length] at h1
  unfold rsz; omega
theorem an_append (s : ByteArray) (m : Int) (a b : List S38) : an s m (a ++ b) = (an s m a || an s m b) := by unfold an; rw [List.any_append]
theorem an_big {s : ByteArray} {m : Int} {l : List S38} (h : lg s l < m) : an s m l = false := by
  unfold an
  rw [List.any_eq_false]
  intro r hr
  simp only [Bool.and_eq_true, decide_eq_true_eq, not_and]
  intro h1 h2
  have := lg_mem hr h2
  omega
theorem lg_one {s : ByteArray} {r : S38} : lg s [r] = if hs s r = true then max (rsz r) 0 else 0 := rfl
theorem an_one {s : ByteArray} {m : Int} {r : S38} : an s m [r] = (r.f0 && decide (rsz r = m) && hs s r) := by simp [an]
theorem lets_no {s : ByteArray} {l : List S38} {r : S38} (h : ¬ hs s r = true) : lg s (l ++ [r]) = lg s l ∧ lets s (l ++ [r]) = lets s l := by
  have := lg_nonneg s l
  have e : lg s (l ++ [r]) = lg s l := by rw [lg_append, lg_one, if_neg h]; omega
  refine ⟨e, ?_⟩
  unfold lets
  rw [e, an_append, an_one, Bool.eq_false_iff.mpr h]; simp
theorem lets_long {s : ByteArray} {l : List S38} {r : S38} (h : hs s r = true) (hl : lg s l < rsz r) : lg s (l ++ [r]) = rsz r ∧ lets s (l ++ [r]) = r.f0 := by
  have := lg_nonneg s l
  have e : lg s (l ++ [r]) = rsz r := by rw [lg_append, lg_one, if_pos h]; omega
  refine ⟨e, ?_⟩
  unfold lets
  rw [e, an_append, an_one, h, an_big hl, decide_eq_false (show ¬ rsz r = 0 by omega)]; simp
theorem lets_same {s : ByteArray} {l : List S38} {r : S38} (h : hs s r = true) (hl : rsz r = lg s l) : lg s (l ++ [r]) = lg s l ∧ lets s (l ++ [r]) = (lets s l || r.f0) := by
  have hp := hs_pos h
  have e : lg s (l ++ [r]) = lg s l := by rw [lg_append, lg_one, if_pos h]; omega
  refine ⟨e, ?_⟩
  unfold lets
  rw [e, an_append, an_one, h, decide_eq_false (show ¬ lg s l = 0 by omega), decide_eq_true hl]; simp
theorem lets_short {s : ByteArray} {l : List S38} {r : S38} (h : hs s r = true) (hl : rsz r < lg s l) : lg s (l ++ [r]) = lg s l ∧ lets s (l ++ [r]) = lets s l := by
  have hp := hs_pos h
  have e : lg s (l ++ [r]) = lg s l := by rw [lg_append, lg_one, if_pos h]; omega
  refine ⟨e, ?_⟩
  unfold lets
  rw [e, an_append, an_one, h, decide_eq_false (show ¬ rsz r = lg s l by omega)]; simp

theorem rd_at {l : List S38} {i : Int} {r : S38} {q : List S38} (h : l.drop i.toNat = r :: q) : rd_T38 l i = r := by
  have := rdOf_get (d := z38) h
  exact this
theorem take_next {α : Type} {l : List α} {i : Nat} {r : α} {q : List α} (h : l.drop i = r :: q) : l.take (i + 1) = l.take i ++ [r] := by
  have hlt : i < l.length := by
    rcases Nat.lt_or_ge i l.length with h1 | h1
    · exact h1
    · rw [List.drop_of_length_le h1] at h; cases h
  rw [List.take_succ_eq_append_getElem hlt]
  rw [List.drop_eq_getElem_cons hlt] at h
  injection h with h _
  rw [h]

theorem impl_loop (s : ByteArray) (x : List S38) (hx : x.length ≤ 10000000) (d : Nat) : ∀ i : Int, 0 ≤ i → i ≤ x.length → (x.length : Int) - i ≤ d →
    Ev (fun k => impl_RuleLets.l0 k s (lg s (x.take i.toNat)) (lets s (x.take i.toNat)) x (x.length : Int) i) (lets s x) := by
  have hend : ∀ i : Int, i = x.length → Ev (fun k => impl_RuleLets.l0 k s (lg s (x.take i.toNat)) (lets s (x.take i.toNat)) x (x.length : Int) i) (lets s x) := by
    intro i hi
    rw [List.take_of_length_le (by omega)]
    exact Ev.step (f := fun _ => some (lets s x)) (fun k => by rw [impl_RuleLets.l0, if_neg (by omega)]) (Ev.const rfl)
  induction d with
  | zero => intro i h0 h1 hd; exact hend i (by omega)
  | succ d ih =>
    intro i h0 h1 hd
    by_cases hlt : i < (x.length : Int)
    rotate_left
    · exact hend i (by omega)
    obtain ⟨r, q, hr⟩ := drop_lt (l := x) (i := i.toNat) (by omega)
    have hrd : rd_T38 x i = r := rd_at hr
    have I := ih (i + 1) (by omega) (by omega) (by omega)
    rw [show (i + 1).toNat = i.toNat + 1 by omega, take_next hr] at I
    have w1 : wrap64 (i + 1) = i + 1 := w64 (by omega) (by omega)
    generalize x.take i.toNat = P at I ⊢
    have H := HasV.impl_ev r.f1 s
    have step : ∀ k, impl_RuleLets.l0 (k + 1) s (lg s P) (lets s P) x (x.length : Int) i = (impl_RuleHas.f k r.f1 s).bind fun t183 => (if t183 = true then (if rsz r > lg s P then (impl_RuleLets.l0 k s (rsz r) r.f0 x (x.length : Int) (i + 1)) else (if rsz r = lg s P then (if lets s P = true then (impl_RuleLets.l0 k s (lg s P) true x (x.length : Int) (i + 1)) else (impl_RuleLets.l0 k s (lg s P) r.f0 x (x.length : Int) (i + 1))) else (impl_RuleLets.l0 k s (lg s P) (lets s P) x (x.length : Int) (i + 1)))) else (impl_RuleLets.l0 k s (lg s P) (lets s P) x (x.length : Int) (i + 1))) := by
      intro k
      rw [impl_RuleLets.l0, if_pos hlt, if_pos h0, if_pos hlt, hrd, w1]; rfl
    refine Ev.step step (Ev.bind H ?_)
    by_cases hh : hs s r = true
    rotate_left
    · obtain ⟨e1, e2⟩ := lets_no (l := P) hh
      rw [e1, e2] at I
      exact Ev.neg hh I
    refine Ev.pos hh ?_
    by_cases c1 : rsz r > lg s P
    · obtain ⟨e1, e2⟩ := lets_long (l := P) hh c1
      rw [e1, e2] at I
      exact Ev.pos c1 I
    refine Ev.neg c1 ?_
    by_cases c2 : rsz r = lg s P
    · obtain ⟨e1, e2⟩ := lets_same (l := P) hh c2
      rw [e1, e2] at I
      refine Ev.pos c2 ?_
      cases hl : lets s P with
      | true => rw [hl, Bool.true_or] at I; exact Ev.pos rfl I
      | false => rw [hl, Bool.false_or] at I; exact Ev.neg Bool.false_ne_true I
    · obtain ⟨e1, e2⟩ := lets_short (l := P) hh (by omega)
      rw [e1, e2] at I
      exact Ev.neg c2 I
theorem impl_ev (s : ByteArray) {x : List S38} (hx : x.length ≤ 10000000) : Ev (fun k => impl_RuleLets.f k x s) (lets s x) := by
  have := impl_loop s x hx x.length 0 (by omega) (by omega) (by omega)
  exact this

/-- The reference begins below the shortest. -/
def lg1 (s : ByteArray) (l : List S38) : Int := if lg s l = 0 then -1 else lg s l
theorem lg1_eq {s : ByteArray} {l : List S38} (h : lg s l ≠ 0) : lg1 s l = lg s l := by unfold lg1; rw [if_neg h]
theorem spec_loop (s : ByteArray) (x : List S38) (hx : x.length ≤ 10000000) (d : Nat) : ∀ i : Int, 0 ≤ i → i ≤ x.length → (x.length : Int) - i ≤ d →
    Ev (fun k => spec_RuleLets.l0 k x s (lg1 s (x.take i.toNat)) (lets s (x.take i.toNat)) i) (lets s x) := by
  have hend : ∀ i : Int, i = x.length → Ev (fun k => spec_RuleLets.l0 k x s (lg1 s (x.take i.toNat)) (lets s (x.take i.toNat)) i) (lets s x) := by
    intro i hi
    rw [List.take_of_length_le (by omega)]
    exact Ev.step (f := fun _ => some (lets s x)) (fun k => by rw [spec_RuleLets.l0, if_neg (by omega)]) (Ev.const rfl)
  induction d with
  | zero => intro i h0 h1 hd; exact hend i (by omega)
  | succ d ih =>
    intro i h0 h1 hd
    by_cases hlt : i < (x.length : Int)
    rotate_left
    · exact hend i (by omega)
    obtain ⟨r, q, hr⟩ := drop_lt (l := x) (i := i.toNat) (by omega)
    have hrd : rd_T38 x i = r := rd_at hr
    have I := ih (i + 1) (by omega) (by omega) (by omega)
    rw [show (i + 1).toNat = i.toNat + 1 by omega, take_next hr] at I
    have w1 : wrap64 (i + 1) = i + 1 := w64 (by omega) (by omega)
    generalize x.take i.toNat = P at I ⊢
    have H := HasV.spec_ev r.f1 s
    have step : ∀ k, spec_RuleLets.l0 (k + 1) x s (lg1 s P) (lets s P) i = (spec_RuleHas.f k r.f1 s).bind fun t169 => (if t169 = true then (if rsz r < lg1 s P then (spec_RuleLets.l0 k x s (lg1 s P) (lets s P) (i + 1)) else (if r.f0 = true then (spec_RuleLets.l0 k x s (rsz r) true (i + 1)) else (if rsz r = lg1 s P then (spec_RuleLets.l0 k x s (rsz r) (lets s P) (i + 1)) else (spec_RuleLets.l0 k x s (rsz r) false (i + 1))))) else (spec_RuleLets.l0 k x s (lg1 s P) (lets s P) (i + 1))) := by
      intro k
      rw [spec_RuleLets.l0, if_pos hlt, if_pos h0, hrd, w1]; rfl
    refine Ev.step step (Ev.bind H ?_)
    by_cases hh : hs s r = true
    rotate_left
    · obtain ⟨e1, e2⟩ := lets_no (l := P) hh
      have e3 : lg1 s (P ++ [r]) = lg1 s P := by unfold lg1; rw [e1]
      rw [e3, e2] at I
      exact Ev.neg hh I
    refine Ev.pos hh ?_
    have hp := hs_pos hh
    have hn := lg_nonneg s P
    have hlt1 : rsz r < lg1 s P ↔ rsz r < lg s P := by unfold lg1; split <;> omega
    have heq1 : rsz r = lg1 s P ↔ rsz r = lg s P := by unfold lg1; split <;> omega
    by_cases c1 : rsz r < lg s P
    · obtain ⟨e1, e2⟩ := lets_short (l := P) hh c1
      have e3 : lg1 s (P ++ [r]) = lg1 s P := by unfold lg1; rw [e1]
      rw [e3, e2] at I
      exact Ev.pos (hlt1.mpr c1) I
    refine Ev.neg (fun h => c1 (hlt1.mp h)) ?_
    by_cases c2 : rsz r = lg s P
    · obtain ⟨e1, e2⟩ := lets_same (l := P) hh c2
      have e3 : lg1 s (P ++ [r]) = rsz r := by rw [lg1_eq (by omega)]; omega
      rw [e3, e2] at I
      cases hf : r.f0 with
      | true => rw [hf, Bool.or_true] at I; exact Ev.pos rfl I
      | false => rw [hf, Bool.or_false] at I; exact Ev.neg Bool.false_ne_true (Ev.pos (heq1.mpr c2) I)
    · obtain ⟨e1, e2⟩ := lets_long (l := P) hh (by omega)
      have e3 : lg1 s (P ++ [r]) = rsz r := by rw [lg1_eq (by omega)]; omega
      rw [e3, e2] at I
      cases hf : r.f0 with
      | true => rw [hf] at I; exact Ev.pos rfl I
      | false => rw [hf] at I; exact Ev.neg Bool.false_ne_true (Ev.neg (fun h => c2 (heq1.mp h)) I)
theorem spec_ev (s : ByteArray) {x : List S38} (hx : x.length ≤ 10000000) : Ev (fun k => spec_RuleLets.f k x s) (lets s x) := by
  have := spec_loop s x hx x.length 0 (by omega) (by omega) (by omega)
  exact this

theorem lg_reverse (s : ByteArray) (l : List S38) : lg s l.reverse = lg s l := by
  induction l with
  | nil => rfl
  | cons r l ih =>
    have := lg_nonneg s l
    rw [List.reverse_cons, lg_append, ih, lg_one]
    simp only [lg]
    split <;> omega
theorem an_reverse (s : ByteArray) (m : Int) (l : List S38) : an s m l.reverse = an s m l := by unfold an; rw [List.any_reverse]
theorem lets_reverse (s : ByteArray) (l : List S38) : lets s l.reverse = lets s l := by unfold lets; rw [lg_reverse, an_reverse]
theorem lets_twice (s : ByteArray) (l : List S38) : lets s (l.reverse ++ l) = lets s l := by
  unfold lets
  have e : lg s (l.reverse ++ l) = lg s l := by rw [lg_append, lg_reverse]; omega
  rw [e, an_append, an_reverse, Bool.or_self]

end Go.Proofs.Ytmkncihmgbjgnaa.LetsF
