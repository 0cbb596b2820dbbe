/- The beginning of a pattern is one; so is that of a drawn one. Condition: none. -/
import Derived.Test.YtpganphmapdkcaaPx10
import Derived.Test.YtpganphmapdkcaaPx23
import Derived.Test.YtpganphmapdkcaaPx9
import Derived.Test.YtpganphmapdkcaaRuleOkF
namespace Go.Proofs.Ytpganphmapdkcaa.Pure
open Go Go.RowKit Go.Proofs.Ytpganphmapdkcaa.P Go.Proofs.Ytpganphmapdkcaa.Lib Go.Proofs.Ytpganphmapdkcaa.Draw Go.Proofs.Ytpganphmapdkcaa.RuleOkF Go.Proofs.YtpganphmapdkcaaW.PrintWords Go.Proofs.YtpganphmapdkcaaW.PrintLast
set_option linter.unusedVariables false
set_option linter.unusedSimpArgs false

theorem drawn_rule {l : List Int} (hl : CodeOk l) {p : Int} (hp : 0 ≤ p) (hp2 : p ≤ 1000000) : ∃ v, Ev (fun k => spec_l71Rule.f k l p) (v, p + 1) ∧ v.size ≤ 30 := by
  unfold spec_l71Rule.f
  exact of_pair hl hp hp2 (by simp) (by simp) (by decide)

theorem drawn {l : List Int} (hw : ∀ x ∈ l, (Lit.int .u8 x).wf = true) : ∃ s, Ev (fun k => spec_DrawRuleOk.f k l) s ∧ s.size ≤ 100 := by
  obtain ⟨l', ho, hl⟩ := open_ev hw
  unfold spec_DrawRuleOk.f
  obtain ⟨v, hv, h0, h1⟩ := pick_ev hl (p := 0) (n := 2) (by omega) (by omega) (by omega) (by omega)
  by_cases h : v = 0
  · obtain ⟨s, hs, hz⟩ := drawn_rule hl (p := 0 + 1) (by omega) (by omega)
    exact ⟨s, Ev.bind0 ho (Ev.bind hv (Ev.pos h (Ev.bind hs (Ev.const rfl)))), by omega⟩
  · obtain ⟨a, ha, hae⟩ := of_ev hl (p := 0 + 1) (by omega) (by omega) (xs := [(⟨#[]⟩ : ByteArray), (⟨#[97]⟩ : ByteArray), (⟨#[47, 97, 36, 98]⟩ : ByteArray), (⟨#[47, 65]⟩ : ByteArray), (⟨#[47, 71]⟩ : ByteArray), (⟨#[47, 97, 32, 98]⟩ : ByteArray), (⟨#[47, 37, 50, 70]⟩ : ByteArray), (⟨#[47, 42, 42, 42, 42, 42, 42, 42, 42, 42, 42, 42, 42, 42, 42, 42, 42, 42, 42, 42, 42, 42, 42, 42, 42]⟩ : ByteArray), (⟨#[47, 97, 36]⟩ : ByteArray), (⟨#[36]⟩ : ByteArray)]) (by simp) (by simp)
    obtain ⟨b, hb, hbe⟩ := of_ev hl (p := 0 + 1 + 1) (by omega) (by omega) (xs := [(⟨#[]⟩ : ByteArray), (⟨#[]⟩ : ByteArray), (⟨#[97]⟩ : ByteArray), (⟨#[36]⟩ : ByteArray), (⟨#[35]⟩ : ByteArray)]) (by simp) (by simp)
    have hsa : a.size ≤ 30 := (by decide : ∀ x ∈ _, ByteArray.size x ≤ 30) a ha
    have hsb : b.size ≤ 30 := (by decide : ∀ x ∈ _, ByteArray.size x ≤ 30) b hb
    refine ⟨a ++ b, Ev.bind0 ho (Ev.bind hv (Ev.neg h (Ev.bind hae (Ev.bind hbe (Ev.pos (by simp only; omega) (Ev.const rfl)))))), ?_⟩
    rw [ByteArray.size_append]; omega

theorem okTail_take : ∀ (p : List Int) (i : Nat), okTail p = true → okTail (p.take i) = true
  | [], i, _ => by simp [okTail]
  | b :: r, 0, _ => rfl
  | [b], i + 1, h => by simpa using h
  | b :: c :: r, 1, h => by
    simp only [okTail, Bool.and_eq_true] at h
    simp [okTail, h.1]
  | b :: c :: r, i + 2, h => by
    simp only [okTail, Bool.and_eq_true] at h
    have := okTail_take (c :: r) (i + 1) h.2
    simp only [List.take_succ_cons] at this ⊢
    simp [okTail, h.1, this]

theorem ruleOk_take {p : List Int} {i : Nat} (hi : 1 ≤ i) (h : ruleOk p = true) : ruleOk (p.take i) = true := by
  unfold ruleOk at h ⊢
  simp only [Bool.and_eq_true, decide_eq_true_eq] at h ⊢
  obtain ⟨⟨⟨h1, h2⟩, h3⟩, h4⟩ := h
  refine ⟨⟨⟨?_, ?_⟩, ?_⟩, okTail_take _ _ h4⟩
  · rw [List.length_take]; omega
  · rw [List.length_take]; omega
  · rw [List.head?_take, if_neg (by omega)]; exact h3

theorem loop (s : ByteArray) (hok : ruleOk (L s) = true) (d : Nat) : ∀ i : Int, 1 ≤ i → (s.size : Int) + 1 - i ≤ d → 
    Ev (fun k => laws_FnRuleOk.l0 k s i) true := by
  have hL := L_length s
  have h := hok
  unfold ruleOk at h
  simp only [Bool.and_eq_true, decide_eq_true_eq] at h
  obtain ⟨⟨⟨h1, h2⟩, h3⟩, h4⟩ := h
  have hend : ∀ i : Int, ¬ i < (s.size : Int) → Ev (fun k => laws_FnRuleOk.l0 k s i) true := by
    intro i hi
    refine Ev.step (f := fun _ => some true) (fun k => ?_) (Ev.const rfl)
    simp only [laws_FnRuleOk.l0]
    have h47 : bt s 0 = 47 := by
      have := bt_zero (s := s) (by omega)
      rw [this] at h3; exact Option.some.inj h3
    rw [if_neg hi, if_pos (by omega), if_pos h47, decide_eq_true (by omega)]
  induction d with
  | zero => intro i hi hd; exact hend i (by omega)
  | succ d ih =>
    intro i hi hd
    by_cases hlt : i < (s.size : Int)
    · have I := ih (i + 1) (by omega) (by omega)
      have hr := impl_ev (s.extract 0 (i : Int).toNat)
      rw [L_extract, List.drop_zero, ruleOk_take (by omega) hok] at hr
      have hw : wrap64 (i + 1) = i + 1 := w64 (by omega) (by omega)
      refine Ev.step (f := fun k => (impl_RuleOk.f k (s.extract 0 (i : Int).toNat)).bind fun t => if t = true then laws_FnRuleOk.l0 k s (i + 1) else some false) (fun k => ?_) (Ev.bind hr (Ev.pos rfl I))
      simp only [laws_FnRuleOk.l0]
      rw [if_pos hlt, if_pos (by omega), if_pos (by omega), hw]
    · exact hend i hlt

theorem FnRuleOk : laws_FnRuleOk.Pure := by
  intro l hm hb hw
  apply Ev.rounds
  unfold laws_FnRuleOk.f
  by_cases h : (l.length : Int) > 1048576
  · exact Ev.pos h (Ev.const rfl)
  obtain ⟨s, hs, hz⟩ := drawn hw
  refine Ev.neg h (Ev.bind hs (Ev.bind (impl_ev s) (Ev.bind (spec_ev s) (Ev.neg (by simp) ?_))))
  cases hok : ruleOk (L s) with
  | true =>
    refine Ev.step (f := fun k => laws_FnRuleOk.l0 k s 1) (fun k => by simp [laws_FnRuleOk.j0]) (loop s hok (s.size + 1) 1 (by omega) (by omega))
  | false =>
    have hr := spec_ev s
    rw [hok] at hr
    refine Ev.step (f := fun k => (spec_RuleOk.f k s).bind fun t => some (false == t)) (fun k => by simp [laws_FnRuleOk.j0]) (Ev.bind hr (Ev.const rfl))

end Go.Proofs.Ytpganphmapdkcaa.Pure
