/- What RuleHas of the program and of the reference answer: one and the same function of the bytes. Condition: none. -/
import Derived.Test.YtmkncihmgbjgnaaPx3
import Derived.Test.YtmkncihmgbjgnaaPx4
import Derived.Test.YtmkncihmgbjgnaaPx5
import Derived.Test.YtmkncihmgbjgnaaFindF
import Derived.Test.YtmkncihmgbjgnaaRuleOkF
namespace Go.Proofs.Ytmkncihmgbjgnaa.HasI
open Go Go.RowKit Go.Proofs.Ytmkncihmgbjgnaa.P Go.Proofs.Ytmkncihmgbjgnaa.Lib Go.Proofs.Ytmkncihmgbjgnaa.EscP Go.Proofs.Ytmkncihmgbjgnaa.CutP Go.Proofs.Ytmkncihmgbjgnaa.MatchP Go.Proofs.Ytmkncihmgbjgnaa.FindF Go.Proofs.Ytmkncihmgbjgnaa.RuleOkF Go.Proofs.YtmkncihmgbjgnaaW.PrintWords Go.Proofs.YtmkncihmgbjgnaaW.PrintLast
set_option linter.unusedVariables false
set_option linter.unusedSimpArgs false

def ruleHas (p s : T) : Bool := ruleOk p && decide (s.length ≤ 60) && has p s

/-- Which beginnings of a way a pattern has read. -/
def comes (p s : T) : List Bool := (List.range (s.length + 1)).map fun j => mat p (s.take j)
theorem comes_length (p s : T) : (comes p s).length = s.length + 1 := by simp [comes]
theorem comes_at (p s : T) (j : Nat) (h : j ≤ s.length) : (comes p s).getD j false = mat p (s.take j) := by
  unfold comes
  rw [List.getD_eq_getElem?_getD, List.getElem?_map, List.getElem?_range (by omega)]
  rfl
/-- The same, as far as it is reckoned. -/
def upto (p s : T) (j : Nat) : List Bool := (List.range (s.length + 1)).map fun t => if t < j then mat p (s.take t) else false
theorem upto_length (p s : T) (j : Nat) : (upto p s j).length = s.length + 1 := by simp [upto]
theorem upto_at (p s : T) {j t : Nat} (h : t < j) (ht : t ≤ s.length) : (upto p s j).getD t false = mat p (s.take t) := by
  unfold upto
  rw [List.getD_eq_getElem?_getD, List.getElem?_map, List.getElem?_range (by omega)]
  simp [h]
theorem upto_zero (p s : T) : upto p s 0 = List.replicate (s.length + 1) false := by
  unfold upto
  apply List.ext_getElem
  · simp
  · intro i h1 h2; simp
theorem upto_all (p s : T) : upto p s (s.length + 1) = comes p s := by
  unfold upto comes
  apply List.map_congr_left
  intro t ht
  rw [List.mem_range] at ht
  rw [if_pos ht]
theorem upto_succ (p s : T) (j : Nat) (h : j ≤ s.length) : upto p s (j + 1) = (upto p s j).set j (mat p (s.take j)) := by
  unfold upto
  apply List.ext_getElem
  · simp
  · intro i h1 h2
    rw [List.getElem_set]
    simp only [List.getElem_map, List.getElem_range]
    by_cases hij : j = i
    · subst hij; simp
    · rw [if_neg hij]
      by_cases hi : i < j
      · rw [if_pos hi, if_pos (by omega)]
      · rw [if_neg hi, if_neg (by omega)]
theorem comes_nil (s : T) : comes [] s = (List.replicate (s.length + 1) false).set 0 true := by
  unfold comes
  apply List.ext_getElem
  · simp
  · intro i h1 h2
    rw [List.getElem_set]
    simp only [List.getElem_map, List.getElem_range, List.getElem_replicate]
    by_cases hi : 0 = i
    · subst hi; simp [mat]
    · rw [if_neg hi]
      rw [Bool.eq_false_iff]
      intro h
      rw [mat_nil] at h
      have := congrArg List.length h
      simp at this h1
      rcases this with h | h
      · omega
      · rw [h] at h1; simp at h1; omega

theorem rdb {l : List Bool} {i : Int} {j : Nat} (h : i = j) : rdOf false l i = l.getD j false := by
  subst h; unfold rdOf; rw [Int.toNat_natCast]

attribute [irreducible] comes upto
theorem w_next {j : Nat} (h : j ≤ 1000) : wrap64 ((j : Int) + 1) = ((j + 1 : Nat) : Int) := by rw [w64 (by omega) (by omega)]; omega
theorem w_up {j : Nat} (h : j ≤ 1000) : wrap64 ((j : Int) + 1) = (j : Int) + 1 := w64 (by omega) (by omega)
theorem w_back {j : Nat} (h : j ≤ 1000) : wrap64 ((j : Int) - 1) = (j : Int) - 1 := w64 (by omega) (by omega)

/- The rounds of the inner walk, one equation for each of its ways. -/
section
variable {k : Nat} {s p : ByteArray} {ends : Bool} {now nxt : List Bool} {i n j : Int}
theorem l1_end (h1 : ¬ j < n) : impl_RuleHas.l1 (k + 1) s p ends now i nxt n j = impl_RuleHas.l0 k s p ends nxt (wrap64 (i + 1)) := by
  rw [impl_RuleHas.l1, if_neg h1]
theorem l1_star_pos (h1 : j < n) (h2 : 0 ≤ i) (h3 : i < (p.size : Int)) (hb : bt p i = 42) (h4 : 0 ≤ j) (h5 : j < (now.length : Int)) (h6 : j < (nxt.length : Int)) (hn : rdOf false now j = true) :
    impl_RuleHas.l1 (k + 1) s p ends now i nxt n j = impl_RuleHas.l1 k s p ends now i (nxt.set j.toNat true) n (wrap64 (j + 1)) := by
  rw [impl_RuleHas.l1, if_pos h1, if_pos h2, if_pos h3, if_pos hb, if_pos h4, if_pos h5, if_pos hn, if_pos h6]
theorem l1_star_neg (h1 : j < n) (h2 : 0 ≤ i) (h3 : i < (p.size : Int)) (hb : bt p i = 42) (h4 : j > 0) (h5 : j < (now.length : Int)) (h6 : j < (nxt.length : Int)) (hn : ¬ rdOf false now j = true) (hw : wrap64 (j - 1) = j - 1) :
    impl_RuleHas.l1 (k + 1) s p ends now i nxt n j = impl_RuleHas.l1 k s p ends now i (nxt.set j.toNat (rdOf false nxt (j - 1))) n (wrap64 (j + 1)) := by
  have g1 : 0 ≤ j := by omega
  have g2 : 0 ≤ j - 1 := by omega
  have g3 : j - 1 < (nxt.length : Int) := by omega
  rw [impl_RuleHas.l1, if_pos h1, if_pos h2, if_pos h3, if_pos hb, if_pos g1, if_pos h5, if_neg hn, if_pos h4, hw, if_pos g2, if_pos g3, if_pos h6]
theorem l1_star_zero (h1 : j < n) (h2 : 0 ≤ i) (h3 : i < (p.size : Int)) (hb : bt p i = 42) (h4 : j = 0) (h5 : j < (now.length : Int)) (h6 : j < (nxt.length : Int)) (hn : ¬ rdOf false now j = true) :
    impl_RuleHas.l1 (k + 1) s p ends now i nxt n j = impl_RuleHas.l1 k s p ends now i (nxt.set j.toNat false) n (wrap64 (j + 1)) := by
  have g1 : 0 ≤ j := by omega
  have g2 : ¬ j > 0 := by omega
  rw [impl_RuleHas.l1, if_pos h1, if_pos h2, if_pos h3, if_pos hb, if_pos g1, if_pos h5, if_neg hn, if_neg g2, if_pos h6]
theorem l1_byte_zero (h1 : j < n) (h2 : 0 ≤ i) (h3 : i < (p.size : Int)) (hb : ¬ bt p i = 42) (h4 : j = 0) (h6 : j < (nxt.length : Int)) :
    impl_RuleHas.l1 (k + 1) s p ends now i nxt n j = impl_RuleHas.l1 k s p ends now i (nxt.set j.toNat false) n (wrap64 (j + 1)) := by
  have g1 : 0 ≤ j := by omega
  have g2 : ¬ j > 0 := by omega
  rw [impl_RuleHas.l1, if_pos h1, if_pos h2, if_pos h3, if_neg hb, if_neg g2, if_pos g1, if_pos h6]
theorem l1_byte (h1 : j < n) (h2 : 0 ≤ i) (h3 : i < (p.size : Int)) (hb : ¬ bt p i = 42) (h4 : j > 0) (h5 : j < (now.length : Int)) (h6 : j < (nxt.length : Int)) (h7 : j - 1 < (s.size : Int)) (hw : wrap64 (j - 1) = j - 1) :
    impl_RuleHas.l1 (k + 1) s p ends now i nxt n j = impl_RuleHas.l1 k s p ends now i (nxt.set j.toNat (rdOf false now (j - 1) && bt s (j - 1) == bt p i)) n (wrap64 (j + 1)) := by
  have g1 : 0 ≤ j := by omega
  have g2 : 0 ≤ j - 1 := by omega
  have g3 : j - 1 < (now.length : Int) := by omega
  rw [impl_RuleHas.l1, if_pos h1, if_pos h2, if_pos h3, if_neg hb, if_pos h4, hw, if_pos g2, if_pos g3, if_pos h7, if_pos g1, if_pos h6]
  cases rdOf false now (j - 1) with
  | true => rw [if_pos rfl, Bool.true_and]
  | false => rw [if_neg Bool.false_ne_true, Bool.false_and, if_pos g1, if_pos h6]
end

/-- One round: the row of what comes, a byte of the pattern later. -/
theorem inner (s p : ByteArray) (ends : Bool) (hs : s.size ≤ 60) (i : Nat) (hi : i < p.size) (hp : p.size ≤ 16) {r : Bool}
    (next : Ev (fun k => impl_RuleHas.l0 k s p ends (comes ((L p).take (i + 1)) (L s)) ((i : Int) + 1)) r) (d : Nat) :
    ∀ j : Nat, j ≤ s.size + 1 → s.size + 1 - j ≤ d → Ev (fun k => impl_RuleHas.l1 k s p ends (comes ((L p).take i) (L s)) (i : Int) (upto ((L p).take (i + 1)) (L s) j) ((s.size + 1 : Nat) : Int) (j : Int)) r := by
  have hL := L_length s
  have hLp := L_length p
  obtain ⟨c, q, hc⟩ := drop_lt (l := L p) (i := i) (by omega)
  have hbc : bt p (i : Int) = c := bt_get (i := (i : Int)) (by simpa using hc)
  have htk : (L p).take (i + 1) = (L p).take i ++ [c] := by
    rw [List.take_succ_eq_append_getElem (by omega)]
    rw [List.drop_eq_getElem_cons (by omega)] at hc
    injection hc with hc _
    rw [hc]
  rw [htk] at next ⊢
  generalize (L p).take i = P at *
  have hi1 : i ≤ 1000 := by omega
  have i0 : (0 : Int) ≤ (i : Int) := by omega
  have ip : (i : Int) < (p.size : Int) := by omega
  have hend : Ev (fun k => impl_RuleHas.l1 k s p ends (comes P (L s)) (i : Int) (upto (P ++ [c]) (L s) (s.size + 1)) ((s.size + 1 : Nat) : Int) ((s.size + 1 : Nat) : Int)) r := by
    have e : upto (P ++ [c]) (L s) (s.size + 1) = comes (P ++ [c]) (L s) := by rw [← hL]; exact upto_all _ _
    rw [e]
    have h1 : ¬ ((s.size + 1 : Nat) : Int) < ((s.size + 1 : Nat) : Int) := by omega
    exact Ev.step (fun k => by rw [l1_end h1, w_up hi1]) next
  induction d with
  | zero =>
    intro j hj hd
    obtain rfl : j = s.size + 1 := by omega
    exact hend
  | succ d ih =>
    intro j hj hd
    by_cases hlt : j < s.size + 1
    rotate_left
    · obtain rfl : j = s.size + 1 := by omega
      exact hend
    have I := ih (j + 1) (by omega) (by omega)
    rw [upto_succ _ _ j (by omega)] at I
    have hj1 : j ≤ 1000 := by omega
    have h1 : (j : Int) < ((s.size + 1 : Nat) : Int) := by omega
    have h5 : (j : Int) < ((comes P (L s)).length : Int) := by rw [comes_length]; omega
    have h6 : (j : Int) < ((upto (P ++ [c]) (L s) j).length : Int) := by rw [upto_length]; omega
    have h0 : (0 : Int) ≤ (j : Int) := by omega
    have tn : ((j : Int)).toNat = j := Int.toNat_natCast j
    have hj0 : rdOf false (comes P (L s)) (j : Int) = mat P ((L s).take j) := by
      rw [rdb rfl, comes_at _ _ _ (by omega)]
    by_cases h42 : c = 42
    · have hb : bt p (i : Int) = 42 := by rw [hbc]; exact h42
      cases hm : mat P ((L s).take j) with
      | true =>
        have hv : mat (P ++ [c]) ((L s).take j) = true := by
          rw [h42]
          cases j with
          | zero => rw [step_zero_star]; exact hm
          | succ j => rw [step_star (by omega), hm, Bool.true_or]
        rw [hv] at I
        exact Ev.step (fun k => by rw [l1_star_pos h1 i0 ip hb h0 h5 h6 (hj0.trans hm), w_next hj1, tn]) I
      | false =>
        have hn : ¬ rdOf false (comes P (L s)) (j : Int) = true := by rw [hj0, hm]; exact Bool.false_ne_true
        by_cases hz : j = 0
        · have hv : mat (P ++ [c]) ((L s).take j) = false := by
            rw [h42]; subst hz; rw [step_zero_star]; exact hm
          have hzi : (j : Int) = 0 := by omega
          rw [hv] at I
          exact Ev.step (fun k => by rw [l1_star_zero h1 i0 ip hb hzi h5 h6 hn, w_next hj1, tn]) I
        · have hv : mat (P ++ [c]) ((L s).take j) = rdOf false (upto (P ++ [c]) (L s) j) ((j : Int) - 1) := by
            obtain ⟨t, rfl⟩ : ∃ t, j = t + 1 := ⟨j - 1, by omega⟩
            have ht : ((t + 1 : Nat) : Int) - 1 = (t : Int) := by omega
            rw [rdb ht, upto_at _ _ (by omega) (by omega), h42, step_star (by omega), hm, Bool.false_or]
          have hpos : (j : Int) > 0 := by omega
          rw [hv] at I
          exact Ev.step (fun k => by rw [l1_star_neg h1 i0 ip hb hpos h5 h6 hn (w_back hj1), w_next hj1, tn]) I
    · have hb : ¬ bt p (i : Int) = 42 := by rw [hbc]; exact h42
      by_cases hz : j = 0
      · have hv : mat (P ++ [c]) ((L s).take j) = false := by
          subst hz; exact step_zero_byte h42
        have hzi : (j : Int) = 0 := by omega
        rw [hv] at I
        exact Ev.step (fun k => by rw [l1_byte_zero h1 i0 ip hb hzi h6, w_next hj1, tn]) I
      · have hv : mat (P ++ [c]) ((L s).take j) = (rdOf false (comes P (L s)) ((j : Int) - 1) && bt s ((j : Int) - 1) == bt p (i : Int)) := by
          obtain ⟨t, rfl⟩ : ∃ t, j = t + 1 := ⟨j - 1, by omega⟩
          have ht : ((t + 1 : Nat) : Int) - 1 = (t : Int) := by omega
          obtain ⟨x, u, hx⟩ := drop_lt (l := L s) (i := t) (by omega)
          have hbx : bt s (t : Int) = x := bt_get (by rw [Int.toNat_natCast]; exact hx)
          rw [rdb ht, comes_at _ _ _ (by omega), ht, step_byte h42 hx, hbx, hbc]
        have hpos : (j : Int) > 0 := by omega
        have h7 : (j : Int) - 1 < (s.size : Int) := by omega
        rw [hv] at I
        exact Ev.step (fun k => by rw [l1_byte h1 i0 ip hb hpos h5 h6 h7 (w_back hj1), w_next hj1, tn]) I

theorem index_loop (l : List Bool) (hl : l.length ≤ 1000) (d : Nat) : ∀ i : Int, 0 ≤ i → i ≤ l.length → (l.length : Int) - i ≤ d →
    ∃ v, Ev (fun k => slices_Index_bool_bool.l0 k l true (l.length : Int) i) v ∧ (v ≥ 0 ↔ true ∈ l.drop i.toNat) := by
  have hend : ∀ i : Int, i = l.length → ∃ v, Ev (fun k => slices_Index_bool_bool.l0 k l true (l.length : Int) i) v ∧ (v ≥ 0 ↔ true ∈ l.drop i.toNat) := by
    intro i hi
    refine ⟨-1, Ev.step (f := fun _ => some (-1)) (fun k => by simp only [slices_Index_bool_bool.l0]; rw [if_neg (by omega)]) (Ev.const rfl), ?_⟩
    rw [List.drop_of_length_le (by omega)]; simp
  induction d with
  | zero => intro i h0 h1 hd; exact hend i (by omega)
  | succ d ih =>
    intro i h0 h1 hd
    by_cases hlt : i < (l.length : Int)
    rotate_left
    · exact hend i (by omega)
    obtain ⟨b, q, hbq⟩ := drop_lt (l := l) (i := i.toNat) (by omega)
    have hr := rdOf_get (d := false) hbq
    cases b with
    | true =>
      refine ⟨i, Ev.step (f := fun _ => some i) (fun k => ?_) (Ev.const rfl), ?_⟩
      · simp only [slices_Index_bool_bool.l0]; rw [if_pos hlt, if_pos h0, if_pos hlt, hr, if_pos (by rfl)]
      · rw [hbq]; simp; omega
    | false =>
      obtain ⟨v, hv, hm⟩ := ih (i + 1) (by omega) (by omega) (by omega)
      refine ⟨v, Ev.step (f := fun k => slices_Index_bool_bool.l0 k l true (l.length : Int) (i + 1)) (fun k => ?_) hv, ?_⟩
      · simp only [slices_Index_bool_bool.l0]
        rw [if_pos hlt, if_pos h0, if_pos hlt, hr, if_neg (by decide), w64 (x := i + 1) (by omega) (by omega)]
      · rw [hm, hbq, show (i + 1).toNat = i.toNat + 1 by omega, drop_next' hbq]; simp
theorem contains_ev {l : List Bool} (hl : l.length ≤ 1000) : Ev (fun k => slices_Contains_bool_bool.f k l true) (decide (true ∈ l)) := by
  obtain ⟨v, hv, hm⟩ := index_loop l hl l.length 0 (by omega) (by omega) (by omega)
  unfold slices_Contains_bool_bool.f slices_Index_bool_bool.f
  refine Ev.bind hv (Ev.const ?_)
  congr 1
  rw [decide_eq_decide, hm]; simp

theorem outer (s p : ByteArray) (ends : Bool) (hs : s.size ≤ 60) (hp : p.size ≤ 16) (d : Nat) :
    ∀ i : Nat, i ≤ p.size → p.size - i ≤ d → Ev (fun k => impl_RuleHas.l0 k s p ends (comes ((L p).take i) (L s)) (i : Int)) (if ends = true then mat (L p) (L s) else mat (L p ++ [42]) (L s)) := by
  have hL := L_length s
  have hLp := L_length p
  have hend : Ev (fun k => impl_RuleHas.l0 k s p ends (comes ((L p).take p.size) (L s)) (p.size : Int)) (if ends = true then mat (L p) (L s) else mat (L p ++ [42]) (L s)) := by
    have hcl := comes_length (L p) (L s)
    rw [List.take_of_length_le (by omega)]
    cases ends with
    | true =>
      rw [if_pos rfl]
      refine Ev.step (f := fun _ => some (mat (L p) (L s))) (fun k => ?_) (Ev.const rfl)
      simp only [impl_RuleHas.l0]
      rw [if_neg (by omega), if_pos trivial, if_pos (by omega), if_pos (by omega), rdb rfl, comes_at _ _ _ (by omega), List.take_of_length_le (by omega)]
    | false =>
      rw [if_neg (by simp)]
      have C := contains_ev (l := comes (L p) (L s)) (by omega)
      have e : decide (true ∈ comes (L p) (L s)) = mat (L p ++ [42]) (L s) := by
        rw [Bool.eq_iff_iff, decide_eq_true_eq, mat_open]
        unfold comes
        rw [List.mem_map]
        constructor
        · rintro ⟨j, hj, h⟩
          rw [List.mem_range] at hj
          exact ⟨j, by omega, h⟩
        · rintro ⟨j, hj, h⟩
          exact ⟨j, by rw [List.mem_range]; omega, h⟩
      rw [e] at C
      refine Ev.step (fun k => ?_) (Ev.bind C (f := fun _ t => some t) (Ev.const rfl))
      simp only [impl_RuleHas.l0]
      rw [if_neg (by omega), if_neg (by simp)]
  induction d with
  | zero =>
    intro i hi hd
    obtain rfl : i = p.size := by omega
    exact hend
  | succ d ih =>
    intro i hi hd
    by_cases hlt : i < p.size
    rotate_left
    · obtain rfl : i = p.size := by omega
      exact hend
    have I := ih (i + 1) (by omega) (by omega)
    have J := inner s p ends hs i hlt hp (by simpa using I) (s.size + 1) 0 (by omega) (by omega)
    rw [upto_zero, hL] at J
    refine Ev.step (fun k => ?_) J
    simp only [impl_RuleHas.l0]
    rw [if_pos (by omega), w64 (x := (s.size : Int) + 1) (by omega) (by omega), if_pos (by omega), if_pos (by omega)]
    simp only [Option.bind_some]
    rw [show ((s.size : Int) + 1).toNat = s.size + 1 by omega, List.length_replicate]
    rfl

theorem cut_end (s : ByteArray) (hs : s.size ≤ 1000000) : ∃ t, strings_CutSuffix.f s (⟨#[36]⟩ : ByteArray) = some (t, endsT (L s)) ∧ L t = bodyT (L s) ∧ t.size ≤ s.size := by
  have hL := L_length s
  have hone : (⟨#[36]⟩ : ByteArray).size = 1 := rfl
  unfold strings_CutSuffix.f stringslite_CutSuffix.f stringslite_HasSuffix.f
  rw [hone]
  have hw : wrap64 ((s.size : Int) - ((1 : Nat) : Int)) = (s.size : Int) - 1 := w64 (by omega) (by omega)
  rw [hw]
  by_cases h1 : (s.size : Int) ≥ ((1 : Nat) : Int)
  · rw [if_pos h1, if_pos (by omega), if_pos (by omega)]
    simp only [Option.bind_some]
    have hlast : L (s.extract ((s.size : Int) - 1).toNat s.size) = (L s).drop (s.size - 1) := by
      rw [L_extract, show ((s.size : Int) - 1).toNat = s.size - 1 by omega, ← hL, List.take_length]
    have hl2 : (L s).getLast? = some 36 ↔ (L s).drop (s.size - 1) = [36] := by
      rw [← hL]
      rcases List.eq_nil_or_concat (L s) with h | ⟨r, c, h⟩
      · rw [h] at hL; simp at hL; omega
      · rw [h]; simp
    rw [beq_toList, hlast, show L (⟨#[36]⟩ : ByteArray) = [36] from rfl]
    unfold bodyT endsT
    by_cases h2 : (L s).drop (s.size - 1) = [36]
    · rw [decide_eq_true h2, if_pos rfl, if_pos (by omega), if_pos (by omega), decide_eq_true (hl2.mpr h2)]
      refine ⟨_, rfl, ?_, ?_⟩
      · rw [if_pos rfl, L_extract, List.drop_zero, List.dropLast_eq_take, hL]
        congr 1; omega
      · rw [ByteArray.size_extract]; omega
    · rw [decide_eq_false h2, if_neg (by simp), decide_eq_false (fun h => h2 (hl2.mp h))]
      exact ⟨_, rfl, by rw [if_neg (by simp)], Nat.le_refl _⟩
  · rw [if_neg h1]
    simp only [Option.bind_some]
    rw [if_neg (by simp)]
    have : L s = [] := List.eq_nil_of_length_eq_zero (by omega)
    unfold bodyT endsT
    rw [this]
    exact ⟨_, rfl, by rw [this]; rfl, Nat.le_refl _⟩

theorem ruleOk_len {p : T} (h : ruleOk p = true) : 1 ≤ p.length ∧ p.length ≤ 16 := by
  unfold ruleOk at h
  simp only [Bool.and_eq_true, decide_eq_true_eq] at h
  exact ⟨h.1.1.1, h.1.1.2⟩

end Go.Proofs.Ytmkncihmgbjgnaa.HasI

namespace Go.Proofs.Ytmkncihmgbjgnaa.HasV
open Go Go.RowKit Go.Proofs.Ytmkncihmgbjgnaa.P Go.Proofs.Ytmkncihmgbjgnaa.Lib Go.Proofs.Ytmkncihmgbjgnaa.EscP Go.Proofs.Ytmkncihmgbjgnaa.CutP Go.Proofs.Ytmkncihmgbjgnaa.MatchP Go.Proofs.Ytmkncihmgbjgnaa.FindF Go.Proofs.Ytmkncihmgbjgnaa.RuleOkF Go.Proofs.Ytmkncihmgbjgnaa.HasI Go.Proofs.YtmkncihmgbjgnaaW.PrintWords Go.Proofs.YtmkncihmgbjgnaaW.PrintLast
set_option linter.unusedVariables false
set_option linter.unusedSimpArgs false

theorem j0_far (k : Nat) (p s : ByteArray) : impl_RuleHas.j0 (k + 1) p s true = some false := by
  rw [impl_RuleHas.j0, if_pos rfl]
theorem set_zero (l : List Bool) : l.set (Int.toNat 0) true = l.set 0 true := by rw [Int.toNat_zero]
theorem j0_near {k : Nat} {p s t : ByteArray} {e : Bool} {n : Nat} (ht : strings_CutSuffix.f p (⟨#[36]⟩ : ByteArray) = some (t, e)) (hw : wrap64 ((s.size : Int) + 1) = (n : Int)) (h0 : 0 < n) (h1 : n ≤ 281474976710656) :
    impl_RuleHas.j0 (k + 1) p s false = impl_RuleHas.l0 k s t e ((List.replicate n false).set 0 true) 0 := by
  have g0 : 0 ≤ (n : Int) := by omega
  have g1 : ((n : Int)).toNat = n := Int.toNat_natCast n
  have g2 : (0 : Int) < (((List.replicate n false).length : Nat) : Int) := by rw [List.length_replicate]; omega
  rw [impl_RuleHas.j0, if_neg Bool.false_ne_true, ht, Option.bind_some]
  simp only []
  rw [hw, if_pos g0, g1, if_pos h1, Option.bind_some, if_pos g2, set_zero]

theorem impl_ev (p s : ByteArray) : Ev (fun k => impl_RuleHas.f k p s) (ruleHas (L p) (L s)) := by
  have hL := L_length s
  have far : Ev (fun k => impl_RuleHas.j0 k p s true) false := Ev.step (f := fun _ => some false) (fun k => j0_far k p s) (Ev.const rfl)
  unfold impl_RuleHas.f ruleHas
  refine Ev.bind (RuleOkF.impl_ev p) ?_
  cases hok : ruleOk (L p) with
  | false =>
    rw [Bool.false_and, Bool.false_and]
    exact Ev.neg Bool.false_ne_true far
  | true =>
    refine Ev.pos rfl ?_
    have hlen := ruleOk_len hok
    rw [L_length] at hlen
    by_cases hs : (s.size : Int) > 60
    · rw [decide_eq_true hs, decide_eq_false (by omega)]
      exact far
    · rw [decide_eq_false hs, decide_eq_true (show (L s).length ≤ 60 by omega), Bool.true_and, Bool.true_and]
      obtain ⟨t, ht, hLt, hts⟩ := cut_end p (by omega)
      have O := outer s t (endsT (L p)) (by omega) (by omega) t.size 0 (by omega) (by omega)
      rw [List.take_zero, comes_nil, hLt, hL] at O
      have hw : wrap64 ((s.size : Int) + 1) = ((s.size + 1 : Nat) : Int) := w_next (by omega)
      unfold has
      exact Ev.step (fun k => j0_near ht hw (by omega) (by omega)) O

theorem spec_ev (p s : ByteArray) : Ev (fun k => spec_RuleHas.f k p s) (ruleHas (L p) (L s)) := by
  have hL := L_length s
  unfold spec_RuleHas.f ruleHas
  refine Ev.bind (RuleOkF.spec_ev p) ?_
  cases hok : ruleOk (L p) with
  | false => exact Ev.neg (by simp) (Ev.const (by simp))
  | true =>
    refine Ev.pos rfl ?_
    have hlen := ruleOk_len hok
    rw [L_length] at hlen
    by_cases hs : (s.size : Int) ≤ 60
    · refine Ev.pos hs (Ev.bind (spec_has p s hlen.1 hlen.2 (by omega)) (Ev.const ?_))
      rw [decide_eq_true (show (L s).length ≤ 60 by omega)]; simp
    · refine Ev.neg hs (Ev.const ?_)
      rw [decide_eq_false (show ¬ (L s).length ≤ 60 by omega)]; simp

end Go.Proofs.Ytmkncihmgbjgnaa.HasV
