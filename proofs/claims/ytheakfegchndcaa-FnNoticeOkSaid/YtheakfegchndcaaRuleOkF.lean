/- What RuleOk of the program and of the reference answer: one and the same function of the pattern's bytes. Condition: none. -/
import Derived.Test.YtheakfegchndcaaPx10
import Derived.Test.YtheakfegchndcaaPx12
import Derived.Test.YtheakfegchndcaaPlainF
import Derived.Test.YtheakfegchndcaaDraw
import Derived.Test.YtheakfegchndcaaByteP
namespace Go.Proofs.Ytheakfegchndcaa.RuleOkF
open Go Go.RowKit Go.Proofs.Ytheakfegchndcaa.P Go.Proofs.Ytheakfegchndcaa.Lib Go.Proofs.Ytheakfegchndcaa.Draw Go.Proofs.Ytheakfegchndcaa.EscP Go.Proofs.YtheakfegchndcaaW.PrintWords Go.Proofs.YtheakfegchndcaaW.PrintLast
set_option linter.unusedVariables false
set_option linter.unusedSimpArgs false

def patB (b : Int) : Bool := plainB b || b == 47 || b == 42 || b == 63 || b == 37 || (decide (65 ≤ b) && decide (b ≤ 70))
/-- All bytes but the last one stand in a pattern; the last one, too, or it is the end's sign. -/
def okTail : List Int → Bool
  | [] => true
  | [b] => patB b || b == 36
  | b :: c :: r => patB b && okTail (c :: r)
def ruleOk (p : List Int) : Bool := decide (1 ≤ p.length) && decide (p.length ≤ 16) && decide (p.head? = some 47) && okTail p

theorem impl_pat (b : Int) : impl_isPatternByte.f b = some (patB b) := by
  unfold impl_isPatternByte.f patB
  rw [impl_plain]
  simp only [Option.bind_some, ge_iff_le]
  repeat' split
  all_goals simp_all
  all_goals omega

/-- Is a byte let, being the last one or not? -/
def okAt (b : Int) (last : Bool) : Bool := patB b || (b == 36 && last)
theorem okTail_cons (b : Int) (r : List Int) : okTail (b :: r) = (okAt b (r.isEmpty) && okTail r) := by
  cases r with
  | nil => simp [okTail, okAt]
  | cons c r => simp [okTail, okAt]

theorem spec_loop (s : ByteArray) (hs : s.size ≤ 1000000) (d : Nat) : ∀ (i : Int), 0 ≤ i → i ≤ s.size → (s.size : Int) - i = d →
    Ev (fun k => spec_RuleOk.l0 k s i) (okTail ((L s).drop i.toNat)) := by
  have hL := L_length s
  induction d with
  | zero =>
    intro i h0 h1 hd
    refine Ev.step (f := fun _ => some true) (fun k => ?_) (Ev.const ?_)
    · simp only [spec_RuleOk.l0]; rw [if_neg (by omega)]
    · rw [List.drop_of_length_le (by omega)]; rfl
  | succ d ih =>
    intro i h0 h1 hd
    have hlt : i < (s.size : Int) := by omega
    obtain ⟨b, r, hbr⟩ := drop_lt (l := L s) (i := i.toNat) (by omega)
    have hb : bt s i = b := bt_get hbr
    have hn : (L s).drop (i + 1).toNat = r := by
      rw [show (i + 1).toNat = i.toNat + 1 by omega]; exact drop_next hbr
    have hw : wrap64 (i + 1) = i + 1 := w64 (by omega) (by omega)
    have hz : wrap64 ((s.size : Int) - 1) = (s.size : Int) - 1 := w64 (by omega) (by omega)
    have hlen : r.length = d := by
      have := congrArg List.length hn
      simp at this; omega
    have hlast : (i = (s.size : Int) - 1) ↔ r.isEmpty = true := by
      rw [List.isEmpty_iff_length_eq_zero, hlen]; omega
    have I := ih (i + 1) (by omega) (by omega) (by omega)
    rw [hn] at I
    rw [hbr, okTail_cons]
    by_cases hok : okAt b r.isEmpty = true
    · rw [hok, Bool.true_and]
      refine Ev.step (f := fun k => spec_RuleOk.l0 k s (i + 1)) (fun k => ?_) I
      simp only [spec_RuleOk.l0]
      rw [if_pos hlt, if_pos h0, spec_plain, hb, hw, hz]
      simp only [Option.bind_some]
      unfold okAt patB at hok
      repeat' split
      all_goals first | rfl | (exfalso; simp_all; done) | (exfalso; simp_all; omega)
    · have hok' : okAt b r.isEmpty = false := by simpa using hok
      rw [hok', Bool.false_and]
      refine Ev.step (f := fun _ => some false) (fun k => ?_) (Ev.const rfl)
      simp only [spec_RuleOk.l0]
      rw [if_pos hlt, if_pos h0, spec_plain, hb, hw, hz]
      simp only [Option.bind_some]
      unfold okAt patB at hok'
      repeat' split
      all_goals first | rfl | (exfalso; simp_all; done) | (exfalso; simp_all; omega)

theorem bt_zero {s : ByteArray} (h : 0 < s.size) : (L s).head? = some (bt s 0) := by
  obtain ⟨b, r, hbr⟩ := drop_lt (l := L s) (i := (0 : Int).toNat) (by rw [L_length]; simpa using h)
  have := bt_get hbr
  simp only [Int.toNat_zero, List.drop_zero] at hbr
  rw [this, hbr]; rfl

theorem spec_ev (s : ByteArray) : Ev (fun k => spec_RuleOk.f k s) (ruleOk (L s)) := by
  have hL := L_length s
  unfold spec_RuleOk.f ruleOk
  by_cases h1 : (s.size : Int) > 16
  · refine Ev.pos h1 (Ev.step (f := fun _ => some false) (fun k => by simp [spec_RuleOk.j0]) (Ev.const ?_))
    have : decide ((L s).length ≤ 16) = false := decide_eq_false (by omega)
    simp [this]
  refine Ev.neg h1 ?_
  by_cases h2 : s.toList = ([] : List UInt8)
  · refine Ev.pos h2 (Ev.step (f := fun _ => some false) (fun k => by simp [spec_RuleOk.j0]) (Ev.const ?_))
    rw [L_of, h2]; rfl
  refine Ev.neg h2 ?_
  have hpos : 0 < s.size := by
    rcases Nat.eq_zero_or_pos s.size with h | h
    · exfalso; apply h2
      have : L s = [] := List.eq_nil_of_length_eq_zero (by omega)
      rw [L_of] at this
      exact List.map_eq_nil_iff.mp this
    · exact h
  refine Ev.pos (by omega) ?_
  rw [bt_zero hpos]
  have e1 : decide (1 ≤ (L s).length) = true := decide_eq_true (by omega)
  have e2 : decide ((L s).length ≤ 16) = true := decide_eq_true (by omega)
  rw [e1, e2]
  simp only [Bool.true_and]
  by_cases h3 : bt s 0 = 47
  · have e3 : (bt s 0 != 47) = false := by simp [h3]
    rw [e3]
    refine Ev.step (f := fun k => spec_RuleOk.l0 k s 0) (fun k => by simp [spec_RuleOk.j0]) ?_
    have := spec_loop s (by omega) s.size 0 (by omega) (by omega) (by omega)
    simpa [h3] using this
  · have e3 : (bt s 0 != 47) = true := by simp [h3]
    rw [e3]
    refine Ev.step (f := fun _ => some false) (fun k => by simp [spec_RuleOk.j0]) (Ev.const ?_)
    simp [h3]

/-! the program's -/
theorem impl_loop (s : ByteArray) (hs : s.size ≤ 1000000) (d : Nat) : ∀ (i : Int), 0 ≤ i → i ≤ s.size → (s.size : Int) - i = d →
    Ev (fun k => impl_RuleOk.l0 k s i) (((L s).drop i.toNat).all patB) := by
  have hL := L_length s
  induction d with
  | zero =>
    intro i h0 h1 hd
    refine Ev.step (f := fun _ => some true) (fun k => ?_) (Ev.const ?_)
    · simp only [impl_RuleOk.l0]; rw [if_neg (by omega)]
    · rw [List.drop_of_length_le (by omega)]; rfl
  | succ d ih =>
    intro i h0 h1 hd
    have hlt : i < (s.size : Int) := by omega
    obtain ⟨b, r, hbr⟩ := drop_lt (l := L s) (i := i.toNat) (by omega)
    have hb : bt s i = b := bt_get hbr
    have hn : (L s).drop (i + 1).toNat = r := by
      rw [show (i + 1).toNat = i.toNat + 1 by omega]; exact drop_next hbr
    have hw : wrap64 (i + 1) = i + 1 := w64 (by omega) (by omega)
    have I := ih (i + 1) (by omega) (by omega) (by omega)
    rw [hn] at I
    rw [hbr, List.all_cons]
    cases hp : patB b with
    | true =>
      rw [Bool.true_and]
      refine Ev.step (f := fun k => impl_RuleOk.l0 k s (i + 1)) (fun k => ?_) I
      simp only [impl_RuleOk.l0]
      rw [if_pos hlt, if_pos h0, impl_pat, hb, hw, hp]
      simp
    | false =>
      rw [Bool.false_and]
      refine Ev.step (f := fun _ => some false) (fun k => ?_) (Ev.const rfl)
      simp only [impl_RuleOk.l0]
      rw [if_pos hlt, if_pos h0, impl_pat, hb, hw, hp]
      simp

/-- A text without an end of its own. -/
def trimEnd (p : List Int) : List Int := if p.getLast? = some 36 then p.dropLast else p

theorem okTail_trim (p : List Int) : okTail p = (trimEnd p).all patB := by
  induction p with
  | nil => rfl
  | cons b r ih =>
    cases r with
    | nil =>
      simp only [okTail, trimEnd]
      by_cases h : b = 36
      · subst h; simp
      · have : (b == 36) = false := beq_eq_false_iff_ne.mpr h
        simp [h, this]
    | cons c r =>
      rw [okTail, ih]
      unfold trimEnd
      rw [List.getLast?_cons_cons]
      split
      · rw [List.dropLast_cons_cons, List.all_cons]
      · simp only [List.all_cons]

theorem trim_end (s : ByteArray) (hs : s.size ≤ 1000000) : ∃ t, strings_TrimSuffix.f s (⟨#[36]⟩ : ByteArray) = some t ∧ L t = trimEnd (L s) ∧ t.size ≤ s.size := by
  have hL := L_length s
  have hone : (⟨#[36]⟩ : ByteArray).size = 1 := rfl
  unfold strings_TrimSuffix.f stringslite_TrimSuffix.f stringslite_HasSuffix.f
  rw [hone]
  have hw : wrap64 ((s.size : Int) - ((1 : Nat) : Int)) = (s.size : Int) - 1 := w64 (by omega) (by omega)
  rw [hw]
  by_cases h1 : (s.size : Int) ≥ ((1 : Nat) : Int)
  · rw [if_pos h1, if_pos (by omega), if_pos (by omega)]
    simp only [Option.bind_some]
    have hlast : L (s.extract ((s.size : Int) - 1).toNat s.size) = (L s).drop (s.size - 1) := by
      rw [L_extract, show ((s.size : Int) - 1).toNat = s.size - 1 by omega, ← hL, List.take_length]
    have hl2 : (L s).getLast? = some 36 ↔ (L s).drop (s.size - 1) = [36] := by
      rw [← hL]
      rcases List.eq_nil_or_concat (L s) with h | ⟨r, c, h⟩
      · rw [h] at hL; simp at hL; omega
      · rw [h]; simp
    rw [beq_toList, hlast, show L (⟨#[36]⟩ : ByteArray) = [36] from rfl]
    by_cases h2 : (L s).drop (s.size - 1) = [36]
    · rw [decide_eq_true h2, if_pos rfl, if_pos (by omega), if_pos (by omega)]
      refine ⟨_, rfl, ?_, ?_⟩
      · unfold trimEnd
        rw [if_pos (hl2.mpr h2), L_extract, List.drop_zero, List.dropLast_eq_take, hL]
        congr 1; omega
      · rw [ByteArray.size_extract]; omega
    · rw [decide_eq_false h2, if_neg (by simp)]
      refine ⟨_, rfl, ?_, Nat.le_refl _⟩
      unfold trimEnd
      rw [if_neg (fun h => h2 (hl2.mp h))]
  · rw [if_neg h1]
    simp only [Option.bind_some]
    rw [if_neg (by simp)]
    refine ⟨_, rfl, ?_, Nat.le_refl _⟩
    have : L s = [] := List.eq_nil_of_length_eq_zero (by omega)
    rw [this]; rfl

theorem impl_ev (s : ByteArray) : Ev (fun k => impl_RuleOk.f k s) (ruleOk (L s)) := by
  have hL := L_length s
  unfold impl_RuleOk.f ruleOk
  by_cases h1 : (s.size : Int) < 1
  · refine Ev.pos h1 (Ev.step (f := fun _ => some false) (fun k => by simp [impl_RuleOk.j0]) (Ev.const ?_))
    have : decide (1 ≤ (L s).length) = false := decide_eq_false (by omega)
    simp [this]
  refine Ev.neg h1 ?_
  by_cases h2 : (s.size : Int) > 16
  · refine Ev.pos h2 (Ev.step (f := fun _ => some false) (fun k => by simp [impl_RuleOk.j0]) (Ev.const ?_))
    have : decide ((L s).length ≤ 16) = false := decide_eq_false (by omega)
    simp [this]
  refine Ev.neg h2 ?_
  refine Ev.pos (by omega) ?_
  rw [bt_zero (by omega)]
  have e1 : decide (1 ≤ (L s).length) = true := decide_eq_true (by omega)
  have e2 : decide ((L s).length ≤ 16) = true := decide_eq_true (by omega)
  rw [e1, e2]
  simp only [Bool.true_and]
  by_cases h3 : bt s 0 = 47
  · have e3 : (bt s 0 != 47) = false := by simp [h3]
    rw [e3]
    obtain ⟨t, ht, hLt, hsz⟩ := trim_end s (by omega)
    refine Ev.step (f := fun k => impl_RuleOk.l0 k t 0) (fun k => by simp [impl_RuleOk.j0, ht]) ?_
    have := impl_loop t (by omega) t.size 0 (by omega) (by omega) (by omega)
    rw [okTail_trim, ← hLt]
    simpa [h3] using this
  · have e3 : (bt s 0 != 47) = true := by simp [h3]
    rw [e3]
    refine Ev.step (f := fun _ => some false) (fun k => by simp [impl_RuleOk.j0]) (Ev.const ?_)
    simp [h3]

end Go.Proofs.Ytheakfegchndcaa.RuleOkF
