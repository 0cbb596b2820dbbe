/- What NoticeOk of the program and of the reference answer: one function of the groups. (The numbers of the types are this seat's.) Condition: not more than a million of each. -/
import Derived.Test.YtheakfegchndcaaPx0
import Derived.Test.YtheakfegchndcaaPx10
import Derived.Test.YtheakfegchndcaaPx11
import Derived.Test.YtheakfegchndcaaPx12
import Derived.Test.YtheakfegchndcaaPx13
import Derived.Test.YtheakfegchndcaaRuleOkF
namespace Go.Proofs.Ytheakfegchndcaa.NoticeF
open Go Go.RowKit Go.Proofs.Ytheakfegchndcaa.P Go.Proofs.Ytheakfegchndcaa.Lib Go.Proofs.Ytheakfegchndcaa.RuleOkF Go.Proofs.YtheakfegchndcaaW.PrintWords Go.Proofs.YtheakfegchndcaaW.PrintLast
set_option linter.unusedVariables false
set_option linter.unusedSimpArgs false

def smallB (b : Int) : Bool := decide (97 ≤ b) && decide (b ≤ 122)
def nameB (s : ByteArray) : Bool := decide (1 ≤ s.size) && decide (s.size ≤ 8) && (L s).all smallB
def whoB (s : ByteArray) : Bool := decide (L s = [42]) || nameB s
def rulB (r : S57) : Bool := ruleOk (L r.f1)
def headB (g : S30) : Bool := !decide (g.f0.length = 0) && !(decide (g.f1.length = 0) && decide (g.f2 = 0)) && !decide (g.f1.length > 6) && (decide (0 ≤ g.f2) && decide (g.f2 ≤ 20))
def grpB (g : S30) : Bool := headB g && g.f0.all whoB && g.f1.all rulB
def lin (g : S30) : Int := g.f0.length + g.f1.length + 1
def lines : List S30 → Int
  | [] => 0
  | g :: t => lin g + lines t
def noticeB (x : List S30) : Bool := x.all grpB && decide (lines x ≤ 40)
/-- Not many of each. -/
def Few (g : S30) : Prop := g.f0.length ≤ 2000000 ∧ g.f1.length ≤ 2000000 ∧ ∀ s ∈ g.f0, s.size ≤ 2000000

theorem small_no {b : Int} (h : b < 97 ∨ b > 122) : smallB b = false := by
  unfold smallB
  rcases h with h | h
  · rw [decide_eq_false (show ¬ 97 ≤ b by omega), Bool.false_and]
  · rw [decide_eq_false (show ¬ b ≤ 122 by omega), Bool.and_false]
theorem small_yes {b : Int} (h : ¬ b < 97) (h' : ¬ b > 122) : smallB b = true := by
  unfold smallB; rw [decide_eq_true (show 97 ≤ b by omega), decide_eq_true (show b ≤ 122 by omega)]; rfl
theorem in_ev (a b c : Int) : spec_l6In.f a b c = some (decide (b ≤ a) && decide (a ≤ c)) := by
  unfold spec_l6In.f
  by_cases h : a ≥ b
  · rw [if_pos h, decide_eq_true (show b ≤ a by omega), Bool.true_and]
  · rw [if_neg h, decide_eq_false (show ¬ b ≤ a by omega), Bool.false_and]

/-! names -/
theorem spec_small (s : ByteArray) (hs : s.size ≤ 2000000) (R : Bool) (hR : spec_l6In.f (s.size : Int) 1 8 = some R) (d : Nat) : ∀ i : Int, 0 ≤ i → i ≤ s.size → (s.size : Int) - i ≤ d →
    Ev (fun k => spec_l2Name.l0 k s i) (((L s).drop i.toNat).all smallB && R) := by
  have hL := L_length s
  have hend : ∀ i : Int, i = s.size → Ev (fun k => spec_l2Name.l0 k s i) (((L s).drop i.toNat).all smallB && R) := by
    intro i hi
    rw [List.drop_of_length_le (by omega)]
    exact Ev.step (f := fun _ => some R) (fun k => by rw [spec_l2Name.l0, if_neg (by omega), hR]; rfl) (Ev.const (by simp))
  induction d with
  | zero => intro i h0 h1 hd; exact hend i (by omega)
  | succ d ih =>
    intro i h0 h1 hd
    by_cases hlt : i < (s.size : Int)
    rotate_left
    · exact hend i (by omega)
    obtain ⟨b, q, hbr⟩ := drop_lt (l := L s) (i := i.toNat) (by omega)
    have hb : bt s i = b := bt_get hbr
    have hn : (L s).drop (i + 1).toNat = q := by rw [show (i + 1).toNat = i.toNat + 1 by omega]; exact drop_next hbr
    have I := ih (i + 1) (by omega) (by omega) (by omega)
    rw [hn] at I
    have w1 : wrap64 (i + 1) = i + 1 := w64 (by omega) (by omega)
    rw [hbr, List.all_cons]
    by_cases c1 : b < 97
    · rw [small_no (.inl c1), Bool.false_and, Bool.false_and]
      exact Ev.step (f := fun _ => some false) (fun k => by rw [spec_l2Name.l0, if_pos hlt, if_pos h0, hb, if_pos c1]) (Ev.const rfl)
    by_cases c2 : b > 122
    · rw [small_no (.inr c2), Bool.false_and, Bool.false_and]
      exact Ev.step (f := fun _ => some false) (fun k => by rw [spec_l2Name.l0, if_pos hlt, if_pos h0, hb, if_neg c1, if_pos c2]) (Ev.const rfl)
    rw [small_yes c1 c2, Bool.true_and]
    exact Ev.step (fun k => by rw [spec_l2Name.l0, if_pos hlt, if_pos h0, hb, if_neg c1, if_neg c2, w1]) I
theorem size_in (s : ByteArray) : spec_l6In.f (s.size : Int) 1 8 = some (decide (1 ≤ s.size) && decide (s.size ≤ 8)) := by
  rw [in_ev]
  congr 2
  · exact decide_eq_decide.mpr (by omega)
  · exact decide_eq_decide.mpr (by omega)
theorem spec_name {s : ByteArray} (hs : s.size ≤ 2000000) : Ev (fun k => spec_l2Name.f k s) (nameB s) := by
  unfold spec_l2Name.f nameB
  have := spec_small s hs _ (size_in s) s.size 0 (by omega) (by omega) (by omega)
  rw [Int.toNat_zero, List.drop_zero, Bool.and_comm] at this
  exact this
theorem impl_small (s : ByteArray) (hs : s.size ≤ 2000000) (d : Nat) : ∀ i : Int, 0 ≤ i → i ≤ s.size → (s.size : Int) - i ≤ d →
    Ev (fun k => impl_allSmallLetters.l0 k s i) (((L s).drop i.toNat).all smallB) := by
  have hL := L_length s
  have hend : ∀ i : Int, i = s.size → Ev (fun k => impl_allSmallLetters.l0 k s i) (((L s).drop i.toNat).all smallB) := by
    intro i hi
    rw [List.drop_of_length_le (by omega)]
    exact Ev.step (f := fun _ => some true) (fun k => by rw [impl_allSmallLetters.l0, if_neg (by omega)]) (Ev.const rfl)
  induction d with
  | zero => intro i h0 h1 hd; exact hend i (by omega)
  | succ d ih =>
    intro i h0 h1 hd
    by_cases hlt : i < (s.size : Int)
    rotate_left
    · exact hend i (by omega)
    obtain ⟨b, q, hbr⟩ := drop_lt (l := L s) (i := i.toNat) (by omega)
    have hb : bt s i = b := bt_get hbr
    have hn : (L s).drop (i + 1).toNat = q := by rw [show (i + 1).toNat = i.toNat + 1 by omega]; exact drop_next hbr
    have I := ih (i + 1) (by omega) (by omega) (by omega)
    rw [hn] at I
    have w1 : wrap64 (i + 1) = i + 1 := w64 (by omega) (by omega)
    rw [hbr, List.all_cons]
    by_cases c1 : b < 97
    · rw [small_no (.inl c1), Bool.false_and]
      exact Ev.step (f := fun _ => some false) (fun k => by rw [impl_allSmallLetters.l0, if_pos hlt, if_pos h0, hb, if_pos c1]) (Ev.const rfl)
    by_cases c2 : b > 122
    · rw [small_no (.inr c2), Bool.false_and]
      exact Ev.step (f := fun _ => some false) (fun k => by rw [impl_allSmallLetters.l0, if_pos hlt, if_pos h0, hb, if_neg c1, if_pos c2]) (Ev.const rfl)
    rw [small_yes c1 c2, Bool.true_and]
    exact Ev.step (fun k => by rw [impl_allSmallLetters.l0, if_pos hlt, if_pos h0, hb, if_neg c1, if_neg c2, w1]) I
theorem impl_name (s : ByteArray) : Ev (fun k => impl_isName.f k s) (nameB s) := by
  unfold impl_isName.f nameB
  by_cases h1 : (s.size : Int) ≥ 1
  · refine Ev.pos h1 ?_
    rw [decide_eq_true (show 1 ≤ s.size by omega), Bool.true_and]
    by_cases h2 : (s.size : Int) ≤ 8
    · refine Ev.pos h2 ?_
      rw [decide_eq_true (show s.size ≤ 8 by omega), Bool.true_and]
      have := impl_small s (by omega) s.size 0 (by omega) (by omega) (by omega)
      rw [Int.toNat_zero, List.drop_zero] at this
      unfold impl_allSmallLetters.f
      exact Ev.bind this (Ev.const rfl)
    · rw [decide_eq_false (show ¬ s.size ≤ 8 by omega), Bool.false_and]
      exact Ev.neg h2 (Ev.const rfl)
  · rw [decide_eq_false (show ¬ 1 ≤ s.size by omega), Bool.false_and, Bool.false_and]
    exact Ev.neg h1 (Ev.const rfl)
theorem star (s : ByteArray) : s.toList = ([42] : List UInt8) ↔ L s = [42] := toList_lit s _
theorem impl_who (s : ByteArray) : Ev (fun k => impl_isGroupName.f k s) (whoB s) := by
  unfold impl_isGroupName.f whoB
  by_cases h : L s = [42]
  · rw [decide_eq_true h, Bool.true_or]
    exact Ev.pos ((star s).mpr h) (Ev.const rfl)
  · rw [decide_eq_false h, Bool.false_or]
    exact Ev.neg (fun e => h ((star s).mp e)) (Ev.bind (impl_name s) (Ev.const rfl))

theorem rd30 {x : List S30} {i : Int} {g : S30} {t : List S30} (h : x.drop i.toNat = g :: t) : rd_T30 x i = g := by
  unfold rd_T30
  have hlt : i.toNat < x.length := by
    rcases Nat.lt_or_ge i.toNat x.length with h' | h'
    · exact h'
    · rw [List.drop_of_length_le h'] at h; cases h
  rw [List.getD_eq_getElem?_getD, List.getElem?_eq_getElem hlt]
  rw [List.drop_eq_getElem_cons hlt] at h
  injection h with h _
theorem rd57 {x : List S57} {i : Int} {g : S57} {t : List S57} (h : x.drop i.toNat = g :: t) : rd_T57 x i = g := by
  unfold rd_T57
  have hlt : i.toNat < x.length := by
    rcases Nat.lt_or_ge i.toNat x.length with h' | h'
    · exact h'
    · rw [List.drop_of_length_le h'] at h; cases h
  rw [List.getD_eq_getElem?_getD, List.getElem?_eq_getElem hlt]
  rw [List.drop_eq_getElem_cons hlt] at h
  injection h with h _

/-! the reference -/
section
variable (x : List S30) (n i : Int) (g : S30) (hg : Few g) (R : Bool) (hR : Ev (fun k => spec_NoticeOk.l0 k x (n + lin g) (i + 1)) R) (hi : 0 ≤ i) (hi2 : i ≤ 100000000) (hn : 0 ≤ n) (hn2 : n ≤ 1000000000000000)
include hg hR hi hi2 hn hn2
theorem spec_rules (d : Nat) : ∀ j : Int, 0 ≤ j → j ≤ g.f1.length → (g.f1.length : Int) - j ≤ d → Ev (fun k => spec_NoticeOk.l2 k x n i j g.f0 g.f1 g.f2) ((g.f1.drop j.toNat).all rulB && R) := by
  have hend : ∀ j : Int, j = g.f1.length → Ev (fun k => spec_NoticeOk.l2 k x n i j g.f0 g.f1 g.f2) ((g.f1.drop j.toNat).all rulB && R) := by
    intro j hj
    rw [List.drop_of_length_le (by omega), List.all_nil, Bool.true_and]
    obtain ⟨h1, h2, _⟩ := hg
    have w1 : wrap64 (n + (g.f0.length : Int)) = n + g.f0.length := w64 (by omega) (by omega)
    have w2 : wrap64 (n + (g.f0.length : Int) + (g.f1.length : Int)) = n + g.f0.length + g.f1.length := w64 (by omega) (by omega)
    have w3 : wrap64 (n + (g.f0.length : Int) + (g.f1.length : Int) + 1) = n + lin g := by unfold lin; rw [w64 (by omega) (by omega)]; omega
    have w4 : wrap64 (i + 1) = i + 1 := w64 (by omega) (by omega)
    exact Ev.step (fun k => by rw [spec_NoticeOk.l2, if_neg (by omega), w1, w2, w3, w4]) hR
  induction d with
  | zero => intro j h0 h1 hd; exact hend j (by omega)
  | succ d ih =>
    intro j h0 h1 hd
    by_cases hlt : j < (g.f1.length : Int)
    rotate_left
    · exact hend j (by omega)
    have h2 := hg.2.1
    obtain ⟨r, q, hr⟩ := drop_lt (l := g.f1) (i := j.toNat) (by omega)
    have hrd := rd57 hr
    have hnx : g.f1.drop (j + 1).toNat = q := by rw [show (j + 1).toNat = j.toNat + 1 by omega]; exact drop_next' hr
    have I := ih (j + 1) (by omega) (by omega) (by omega)
    have w1 : wrap64 (j + 1) = j + 1 := w64 (by omega) (by omega)
    rw [hnx] at I
    rw [hr, List.all_cons]
    have S := RuleOkF.spec_ev r.f1
    have step : ∀ k, spec_NoticeOk.l2 (k + 1) x n i j g.f0 g.f1 g.f2 = (spec_RuleOk.f k r.f1).bind fun t265 => (if t265 = true then (spec_NoticeOk.l2 k x n i (j + 1) g.f0 g.f1 g.f2) else (some false)) := fun k => by
      rw [spec_NoticeOk.l2, if_pos hlt, if_pos h0, hrd, w1]
    unfold rulB
    cases hk : ruleOk (L r.f1) with
    | true => rw [hk] at S; rw [Bool.true_and]; exact Ev.step step (Ev.bind S (Ev.pos rfl I))
    | false => rw [hk] at S; rw [Bool.false_and, Bool.false_and]; exact Ev.step step (Ev.bind S (Ev.neg Bool.false_ne_true (Ev.const rfl)))
theorem spec_names (d : Nat) : ∀ j : Int, 0 ≤ j → j ≤ g.f0.length → (g.f0.length : Int) - j ≤ d → Ev (fun k => spec_NoticeOk.l1 k x n i j g.f0 g.f1 g.f2) ((g.f0.drop j.toNat).all whoB && (g.f1.all rulB && R)) := by
  have hend : ∀ j : Int, j = g.f0.length → Ev (fun k => spec_NoticeOk.l1 k x n i j g.f0 g.f1 g.f2) ((g.f0.drop j.toNat).all whoB && (g.f1.all rulB && R)) := by
    intro j hj
    rw [List.drop_of_length_le (by omega), List.all_nil, Bool.true_and]
    have := spec_rules x n i g hg R hR hi hi2 hn hn2 g.f1.length 0 (by omega) (by omega) (by omega)
    rw [Int.toNat_zero, List.drop_zero] at this
    exact Ev.step (fun k => by rw [spec_NoticeOk.l1, if_neg (by omega)]) this
  induction d with
  | zero => intro j h0 h1 hd; exact hend j (by omega)
  | succ d ih =>
    intro j h0 h1 hd
    by_cases hlt : j < (g.f0.length : Int)
    rotate_left
    · exact hend j (by omega)
    have h2 := hg.1
    obtain ⟨r, q, hr⟩ := drop_lt (l := g.f0) (i := j.toNat) (by omega)
    have hrd : rdOf ByteArray.empty g.f0 j = r := rdOf_get hr
    have hnx : g.f0.drop (j + 1).toNat = q := by rw [show (j + 1).toNat = j.toNat + 1 by omega]; exact drop_next' hr
    have I := ih (j + 1) (by omega) (by omega) (by omega)
    have w1 : wrap64 (j + 1) = j + 1 := w64 (by omega) (by omega)
    rw [hnx] at I
    rw [hr, List.all_cons]
    have S := spec_name (hg.2.2 r (List.drop_subset j.toNat g.f0 (by rw [hr]; exact List.mem_cons_self)))
    have step : ∀ k, spec_NoticeOk.l1 (k + 1) x n i j g.f0 g.f1 g.f2 = (if r.toList = ([42] : List UInt8) then (spec_NoticeOk.l1 k x n i (j + 1) g.f0 g.f1 g.f2) else ((spec_l2Name.f k r).bind fun t263 => (if t263 = true then (spec_NoticeOk.l1 k x n i (j + 1) g.f0 g.f1 g.f2) else (some false)))) := fun k => by
      rw [spec_NoticeOk.l1, if_pos hlt, if_pos h0, hrd, w1]
    unfold whoB
    by_cases hs : L r = [42]
    · rw [decide_eq_true hs, Bool.true_or, Bool.true_and]
      exact Ev.step step (Ev.pos ((star r).mpr hs) I)
    rw [decide_eq_false hs, Bool.false_or]
    cases hk : nameB r with
    | true => rw [hk] at S; rw [Bool.true_and]; exact Ev.step step (Ev.neg (fun e => hs ((star r).mp e)) (Ev.bind S (Ev.pos rfl I)))
    | false => rw [hk] at S; rw [Bool.false_and, Bool.false_and]; exact Ev.step step (Ev.neg (fun e => hs ((star r).mp e)) (Ev.bind S (Ev.neg Bool.false_ne_true (Ev.const rfl))))
theorem spec_head (b : Bool) (hb : headB g = !b) : Ev (fun k => spec_NoticeOk.j1 k x n i b g.f0 g.f1 g.f2) (grpB g && R) := by
  unfold grpB
  rw [hb]
  cases b with
  | true => exact Ev.step (f := fun _ => some false) (fun k => by rw [spec_NoticeOk.j1, if_pos rfl]) (Ev.const (by simp))
  | false =>
    have := spec_names x n i g hg R hR hi hi2 hn hn2 g.f0.length 0 (by omega) (by omega) (by omega)
    rw [Int.toNat_zero, List.drop_zero] at this
    rw [Bool.not_false, Bool.true_and, Bool.and_assoc]
    exact Ev.step (fun k => by rw [spec_NoticeOk.j1, if_neg Bool.false_ne_true]) this
theorem spec_one (hlt : i < (x.length : Int)) (hrd : rd_T30 x i = g) : Ev (fun k => spec_NoticeOk.l0 k x n i) (grpB g && R) := by
  have H := spec_head x n i g hg R hR hi hi2 hn hn2
  have step : ∀ k, spec_NoticeOk.l0 (k + 1) x n i = (if (g.f0.length : Int) = 0 then (spec_NoticeOk.j1 k x n i true g.f0 g.f1 g.f2) else (if (g.f1.length : Int) = 0 then (if g.f2 = 0 then (spec_NoticeOk.j1 k x n i true g.f0 g.f1 g.f2) else (if (g.f1.length : Int) > 6 then (spec_NoticeOk.j1 k x n i true g.f0 g.f1 g.f2) else ((some (decide (0 ≤ g.f2) && decide (g.f2 ≤ 20))).bind fun t259 => (spec_NoticeOk.j1 k x n i (!t259) g.f0 g.f1 g.f2)))) else (if (g.f1.length : Int) > 6 then (spec_NoticeOk.j1 k x n i true g.f0 g.f1 g.f2) else ((some (decide (0 ≤ g.f2) && decide (g.f2 ≤ 20))).bind fun t260 => (spec_NoticeOk.j1 k x n i (!t260) g.f0 g.f1 g.f2))))) := fun k => by
    rw [spec_NoticeOk.l0, if_pos hlt, if_pos hi, hrd, in_ev]
  by_cases c1 : (g.f0.length : Int) = 0
  · exact Ev.step step (Ev.pos c1 (H true (by unfold headB; rw [decide_eq_true (show g.f0.length = 0 by omega)]; simp)))
  have e1 : decide (g.f0.length = 0) = false := decide_eq_false (by omega)
  by_cases c2 : (g.f1.length : Int) = 0
  · have e2 : decide (g.f1.length = 0) = true := decide_eq_true (by omega)
    by_cases c3 : g.f2 = 0
    · exact Ev.step step (Ev.neg c1 (Ev.pos c2 (Ev.pos c3 (H true (by unfold headB; rw [e1, e2, decide_eq_true c3]; simp)))))
    · have e3 : decide (g.f1.length > 6) = false := decide_eq_false (by omega)
      exact Ev.step step (Ev.neg c1 (Ev.pos c2 (Ev.neg c3 (Ev.neg (by omega) (Ev.bind0 rfl (H _ (by unfold headB; rw [e1, e2, decide_eq_false c3, e3]; simp)))))))
  · have e2 : decide (g.f1.length = 0) = false := decide_eq_false (by omega)
    by_cases c3 : (g.f1.length : Int) > 6
    · exact Ev.step step (Ev.neg c1 (Ev.neg c2 (Ev.pos c3 (H true (by unfold headB; rw [decide_eq_true (show g.f1.length > 6 by omega)]; simp)))))
    · have e3 : decide (g.f1.length > 6) = false := decide_eq_false (by omega)
      exact Ev.step step (Ev.neg c1 (Ev.neg c2 (Ev.neg c3 (Ev.bind0 rfl (H _ (by unfold headB; rw [e1, e2, e3]; simp))))))
end
theorem spec_loop (x : List S30) (hx : x.length ≤ 2000000) (hf : ∀ g ∈ x, Few g) (d : Nat) : ∀ n i : Int, 0 ≤ i → i ≤ x.length → (x.length : Int) - i ≤ d → 0 ≤ n → n + 4000001 * d ≤ 1000000000000000 →
    Ev (fun k => spec_NoticeOk.l0 k x n i) ((x.drop i.toNat).all grpB && decide (n + lines (x.drop i.toNat) ≤ 40)) := by
  have hend : ∀ n i : Int, i = x.length → Ev (fun k => spec_NoticeOk.l0 k x n i) ((x.drop i.toNat).all grpB && decide (n + lines (x.drop i.toNat) ≤ 40)) := by
    intro n i hi
    rw [List.drop_of_length_le (by omega), List.all_nil, Bool.true_and]
    exact Ev.step (f := fun _ => some (decide (n ≤ 40))) (fun k => by rw [spec_NoticeOk.l0, if_neg (by omega)]) (Ev.const (by simp [lines]))
  induction d with
  | zero => intro n i h0 h1 hd _ _; exact hend n i (by omega)
  | succ d ih =>
    intro n i h0 h1 hd hn hn2
    by_cases hlt : i < (x.length : Int)
    rotate_left
    · exact hend n i (by omega)
    obtain ⟨g, q, hr⟩ := drop_lt (l := x) (i := i.toNat) (by omega)
    have hg := hf g (List.drop_subset i.toNat x (by rw [hr]; exact List.mem_cons_self))
    have hnx : x.drop (i + 1).toNat = q := by rw [show (i + 1).toNat = i.toNat + 1 by omega]; exact drop_next' hr
    have hl : 0 ≤ lin g ∧ lin g ≤ 4000001 := by unfold lin; have := hg.1; have := hg.2.1; omega
    have I := ih (n + lin g) (i + 1) (by omega) (by omega) (by omega) (by omega) (by omega)
    rw [hnx] at I
    have O := spec_one x n i g hg _ I h0 (by omega) hn (by omega) hlt (rd30 hr)
    rw [hr, List.all_cons]
    have e : n + lines (g :: q) = n + lin g + lines q := by show n + (lin g + lines q) = _; omega
    rw [e, Bool.and_assoc]
    exact O
theorem spec_ev {x : List S30} (hx : x.length ≤ 2000000) (hf : ∀ g ∈ x, Few g) : Ev (fun k => spec_NoticeOk.f k x) (noticeB x) := by
  unfold spec_NoticeOk.f noticeB
  have := spec_loop x hx hf x.length 0 0 (by omega) (by omega) (by omega) (by omega) (by omega)
  rw [Int.toNat_zero, List.drop_zero] at this
  simpa using this

/-! the program -/
theorem impl_rules (x : List S57) (hx : x.length ≤ 2000000) (d : Nat) : ∀ j : Int, 0 ≤ j → j ≤ x.length → (x.length : Int) - j ≤ d → Ev (fun k => impl_rulesOk.l0 k x (x.length : Int) j) ((x.drop j.toNat).all rulB) := by
  have hend : ∀ j : Int, j = x.length → Ev (fun k => impl_rulesOk.l0 k x (x.length : Int) j) ((x.drop j.toNat).all rulB) := by
    intro j hj
    rw [List.drop_of_length_le (by omega)]
    exact Ev.step (f := fun _ => some true) (fun k => by rw [impl_rulesOk.l0, if_neg (by omega)]) (Ev.const rfl)
  induction d with
  | zero => intro j h0 h1 hd; exact hend j (by omega)
  | succ d ih =>
    intro j h0 h1 hd
    by_cases hlt : j < (x.length : Int)
    rotate_left
    · exact hend j (by omega)
    obtain ⟨r, q, hr⟩ := drop_lt (l := x) (i := j.toNat) (by omega)
    have hrd := rd57 hr
    have hnx : x.drop (j + 1).toNat = q := by rw [show (j + 1).toNat = j.toNat + 1 by omega]; exact drop_next' hr
    have I := ih (j + 1) (by omega) (by omega) (by omega)
    have w1 : wrap64 (j + 1) = j + 1 := w64 (by omega) (by omega)
    rw [hnx] at I
    rw [hr, List.all_cons]
    have S := RuleOkF.impl_ev r.f1
    have step : ∀ k, impl_rulesOk.l0 (k + 1) x (x.length : Int) j = (impl_RuleOk.f k r.f1).bind fun t247 => (if t247 = true then (impl_rulesOk.l0 k x (x.length : Int) (j + 1)) else (some false)) := fun k => by
      rw [impl_rulesOk.l0, if_pos hlt, if_pos h0, if_pos hlt, hrd, w1]
    unfold rulB
    cases hk : ruleOk (L r.f1) with
    | true => rw [hk] at S; rw [Bool.true_and]; exact Ev.step step (Ev.bind S (Ev.pos rfl I))
    | false => rw [hk] at S; rw [Bool.false_and]; exact Ev.step step (Ev.bind S (Ev.neg Bool.false_ne_true (Ev.const rfl)))
theorem impl_names (g : S30) (hg : Few g) (d : Nat) : ∀ j : Int, 0 ≤ j → j ≤ g.f0.length → (g.f0.length : Int) - j ≤ d → Ev (fun k => impl_groupOk.l0 k g.f0 (g.f0.length : Int) j g.f0 g.f1 g.f2) ((g.f0.drop j.toNat).all whoB && g.f1.all rulB) := by
  have hend : ∀ j : Int, j = g.f0.length → Ev (fun k => impl_groupOk.l0 k g.f0 (g.f0.length : Int) j g.f0 g.f1 g.f2) ((g.f0.drop j.toNat).all whoB && g.f1.all rulB) := by
    intro j hj
    rw [List.drop_of_length_le (by omega), List.all_nil, Bool.true_and]
    have := impl_rules g.f1 hg.2.1 g.f1.length 0 (by omega) (by omega) (by omega)
    rw [Int.toNat_zero, List.drop_zero] at this
    exact Ev.step (f := fun k => (impl_rulesOk.f k g.f1).bind fun t251 => (some t251)) (fun k => by rw [impl_groupOk.l0, if_neg (by omega)]) (Ev.bind (by unfold impl_rulesOk.f; exact this) (Ev.const rfl))
  induction d with
  | zero => intro j h0 h1 hd; exact hend j (by omega)
  | succ d ih =>
    intro j h0 h1 hd
    by_cases hlt : j < (g.f0.length : Int)
    rotate_left
    · exact hend j (by omega)
    have h2 := hg.1
    obtain ⟨r, q, hr⟩ := drop_lt (l := g.f0) (i := j.toNat) (by omega)
    have hrd : rdOf ByteArray.empty g.f0 j = r := rdOf_get hr
    have hnx : g.f0.drop (j + 1).toNat = q := by rw [show (j + 1).toNat = j.toNat + 1 by omega]; exact drop_next' hr
    have I := ih (j + 1) (by omega) (by omega) (by omega)
    have w1 : wrap64 (j + 1) = j + 1 := w64 (by omega) (by omega)
    rw [hnx] at I
    rw [hr, List.all_cons]
    have S := impl_who r
    have step : ∀ k, impl_groupOk.l0 (k + 1) g.f0 (g.f0.length : Int) j g.f0 g.f1 g.f2 = (impl_isGroupName.f k r).bind fun t250 => (if t250 = true then (impl_groupOk.l0 k g.f0 (g.f0.length : Int) (j + 1) g.f0 g.f1 g.f2) else (some false)) := fun k => by
      rw [impl_groupOk.l0, if_pos hlt, if_pos h0, if_pos hlt, hrd, w1]
    cases hk : whoB r with
    | true => rw [hk] at S; rw [Bool.true_and]; exact Ev.step step (Ev.bind S (Ev.pos rfl I))
    | false => rw [hk] at S; rw [Bool.false_and, Bool.false_and]; exact Ev.step step (Ev.bind S (Ev.neg Bool.false_ne_true (Ev.const rfl)))
theorem impl_group {g : S30} (hg : Few g) : Ev (fun k => impl_groupOk.f k g.f0 g.f1 g.f2) (grpB g) := by
  have N := impl_names g hg g.f0.length 0 (by omega) (by omega) (by omega)
  rw [Int.toNat_zero, List.drop_zero] at N
  have far0 : Ev (fun k => impl_groupOk.j0 k true g.f0 g.f1 g.f2) false := Ev.step (f := fun _ => some false) (fun k => by rw [impl_groupOk.j0, if_pos rfl]) (Ev.const rfl)
  have far1 : Ev (fun k => impl_groupOk.j1 k true g.f0 g.f1 g.f2) false := Ev.step (f := fun _ => some false) (fun k => by rw [impl_groupOk.j1, if_pos rfl]) (Ev.const rfl)
  have near1 : Ev (fun k => impl_groupOk.j1 k false g.f0 g.f1 g.f2) (g.f0.all whoB && g.f1.all rulB) := Ev.step (fun k => by rw [impl_groupOk.j1, if_neg Bool.false_ne_true]) N
  have step0 : ∀ k, impl_groupOk.j0 (k + 1) false g.f0 g.f1 g.f2 = (if (g.f1.length : Int) = 0 then (impl_groupOk.j1 k (g.f2 == 0) g.f0 g.f1 g.f2) else (impl_groupOk.j1 k false g.f0 g.f1 g.f2)) := fun k => by rw [impl_groupOk.j0, if_neg Bool.false_ne_true]
  unfold impl_groupOk.f grpB
  by_cases c1 : (g.f0.length : Int) = 0
  · have e : headB g = false := by unfold headB; rw [decide_eq_true (show g.f0.length = 0 by omega)]; simp
    rw [e, Bool.false_and, Bool.false_and]
    exact Ev.pos c1 far0
  have e1 : decide (g.f0.length = 0) = false := decide_eq_false (by omega)
  refine Ev.neg c1 ?_
  by_cases c2 : (g.f1.length : Int) > 6
  · have e : headB g = false := by unfold headB; rw [decide_eq_true (show g.f1.length > 6 by omega)]; simp
    rw [e, Bool.false_and, Bool.false_and]
    exact Ev.pos c2 far0
  have e2 : decide (g.f1.length > 6) = false := decide_eq_false (by omega)
  refine Ev.neg c2 ?_
  by_cases c3 : g.f2 < 0
  · have e : headB g = false := by unfold headB; rw [decide_eq_false (show ¬ 0 ≤ g.f2 by omega)]; simp
    rw [e, Bool.false_and, Bool.false_and]
    exact Ev.pos c3 far0
  have e3 : decide (0 ≤ g.f2) = true := decide_eq_true (by omega)
  refine Ev.neg c3 ?_
  by_cases c4 : g.f2 > 20
  · have e : headB g = false := by unfold headB; rw [decide_eq_false (show ¬ g.f2 ≤ 20 by omega)]; simp
    rw [e, Bool.false_and, Bool.false_and, decide_eq_true c4]
    exact far0
  have e4 : decide (g.f2 ≤ 20) = true := decide_eq_true (by omega)
  rw [decide_eq_false c4]
  by_cases c5 : (g.f1.length : Int) = 0
  · by_cases c6 : g.f2 = 0
    · have e : headB g = false := by unfold headB; rw [decide_eq_true (show g.f1.length = 0 by omega), decide_eq_true c6]; simp
      rw [e, Bool.false_and, Bool.false_and]
      exact Ev.step step0 (Ev.pos c5 (by rw [show (g.f2 == 0) = true from beq_iff_eq.mpr c6]; exact far1))
    · have e : headB g = true := by unfold headB; rw [e1, e2, e3, e4, decide_eq_false c6]; simp
      rw [e, Bool.true_and]
      exact Ev.step step0 (Ev.pos c5 (by rw [show (g.f2 == 0) = false from beq_eq_false_iff_ne.mpr c6]; exact near1))
  · have e : headB g = true := by unfold headB; rw [e1, e2, e3, e4, decide_eq_false (show ¬ g.f1.length = 0 by omega)]; simp
    rw [e, Bool.true_and]
    exact Ev.step step0 (Ev.neg c5 near1)
theorem impl_loop (x : List S30) (hx : x.length ≤ 2000000) (hf : ∀ g ∈ x, Few g) (d : Nat) : ∀ n i : Int, 0 ≤ i → i ≤ x.length → (x.length : Int) - i ≤ d → 0 ≤ n → n + 4000001 * d ≤ 1000000000000000 →
    Ev (fun k => impl_NoticeOk.l0 k n x (x.length : Int) i) ((x.drop i.toNat).all grpB && decide (n + lines (x.drop i.toNat) ≤ 40)) := by
  have hend : ∀ n i : Int, i = x.length → Ev (fun k => impl_NoticeOk.l0 k n x (x.length : Int) i) ((x.drop i.toNat).all grpB && decide (n + lines (x.drop i.toNat) ≤ 40)) := by
    intro n i hi
    rw [List.drop_of_length_le (by omega), List.all_nil, Bool.true_and]
    exact Ev.step (f := fun _ => some (decide (n ≤ 40))) (fun k => by rw [impl_NoticeOk.l0, if_neg (by omega)]) (Ev.const (by simp [lines]))
  induction d with
  | zero => intro n i h0 h1 hd _ _; exact hend n i (by omega)
  | succ d ih =>
    intro n i h0 h1 hd hn hn2
    by_cases hlt : i < (x.length : Int)
    rotate_left
    · exact hend n i (by omega)
    obtain ⟨g, q, hr⟩ := drop_lt (l := x) (i := i.toNat) (by omega)
    have hg := hf g (List.drop_subset i.toNat x (by rw [hr]; exact List.mem_cons_self))
    have hnx : x.drop (i + 1).toNat = q := by rw [show (i + 1).toNat = i.toNat + 1 by omega]; exact drop_next' hr
    have hl : 0 ≤ lin g ∧ lin g ≤ 4000001 := by unfold lin; have := hg.1; have := hg.2.1; omega
    have I := ih (n + lin g) (i + 1) (by omega) (by omega) (by omega) (by omega) (by omega)
    rw [hnx] at I
    have hrd := rd30 hr
    have a1 := hg.1
    have a2 := hg.2.1
    have w1 : wrap64 ((g.f0.length : Int) + (g.f1.length : Int)) = (g.f0.length : Int) + g.f1.length := w64 (by omega) (by omega)
    have w2 : wrap64 ((g.f0.length : Int) + (g.f1.length : Int) + 1) = lin g := by unfold lin; exact w64 (by omega) (by omega)
    have w3 : wrap64 (n + lin g) = n + lin g := w64 (by omega) (by omega)
    have w4 : wrap64 (i + 1) = i + 1 := w64 (by omega) (by omega)
    have step : ∀ k, impl_NoticeOk.l0 (k + 1) n x (x.length : Int) i = (impl_groupOk.f k g.f0 g.f1 g.f2).bind fun t254 => (if t254 = true then (impl_NoticeOk.l0 k (n + lin g) x (x.length : Int) (i + 1)) else (some false)) := fun k => by
      rw [impl_NoticeOk.l0, if_pos hlt, if_pos h0, if_pos hlt, hrd, w1, w2, w3, w4]
    have G := impl_group hg
    rw [hr, List.all_cons]
    have e : n + lines (g :: q) = n + lin g + lines q := by show n + (lin g + lines q) = _; omega
    rw [e, Bool.and_assoc]
    cases hk : grpB g with
    | true => rw [hk] at G; rw [Bool.true_and]; exact Ev.step step (Ev.bind G (Ev.pos rfl I))
    | false => rw [hk] at G; rw [Bool.false_and]; exact Ev.step step (Ev.bind G (Ev.neg Bool.false_ne_true (Ev.const rfl)))
theorem impl_ev {x : List S30} (hx : x.length ≤ 2000000) (hf : ∀ g ∈ x, Few g) : Ev (fun k => impl_NoticeOk.f k x) (noticeB x) := by
  unfold impl_NoticeOk.f noticeB
  have := impl_loop x hx hf x.length 0 0 (by omega) (by omega) (by omega) (by omega) (by omega)
  rw [Int.toNat_zero, List.drop_zero] at this
  simpa using this
end Go.Proofs.Ytheakfegchndcaa.NoticeF
