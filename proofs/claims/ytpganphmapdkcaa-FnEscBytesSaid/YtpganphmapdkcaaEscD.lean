/- A drawn text: it is drawn without fail, and is not long. Condition: a code of bytes. -/
import Derived.Test.YtpganphmapdkcaaPx2
import Derived.Test.YtpganphmapdkcaaPx6
import Derived.Test.YtpganphmapdkcaaDraw
namespace Go.Proofs.Ytpganphmapdkcaa.EscD
open Go Go.RowKit Go.Proofs.Ytpganphmapdkcaa.P Go.Proofs.Ytpganphmapdkcaa.Lib Go.Proofs.Ytpganphmapdkcaa.Draw Go.Proofs.YtpganphmapdkcaaW.PrintWords Go.Proofs.YtpganphmapdkcaaW.PrintLast
set_option linter.unusedVariables false
set_option linter.unusedSimpArgs false

theorem many_loop (d : Nat) : ∀ (x o : ByteArray) (n : Int), n ≤ d → (n : Int) ≤ 1000 → -10 ≤ n → x.size ≤ 100000 → o.size ≤ 100000 → (0 < n → (o.size : Int) + n * x.size ≤ 1000) →
    ∃ r, Ev (fun k => spec_l6Many.l0 k x n o) r ∧ (r.size ≤ o.size ∨ r.size ≤ 1000) := by
  induction d with
  | zero =>
    intro x o n hd hn hn2 hx ho hc
    exact ⟨o, Ev.step (f := fun _ => some o) (fun k => by simp only [spec_l6Many.l0]; rw [if_neg (by omega)]) (Ev.const rfl), .inl (Nat.le_refl _)⟩
  | succ d ih =>
    intro x o n hd hn hn2 hx ho hc
    by_cases h : n > 0
    rotate_left
    · exact ⟨o, Ev.step (f := fun _ => some o) (fun k => by simp only [spec_l6Many.l0]; rw [if_neg h]) (Ev.const rfl), .inl (Nat.le_refl _)⟩
    have hc := hc h
    have t1 : Int.tmod n 2 = n % 2 := Int.tmod_eq_emod_of_nonneg (by omega)
    have t2 : Int.tdiv n 2 = n / 2 := Int.tdiv_eq_ediv_of_nonneg (by omega)
    have t3 : wrap64 (Int.tdiv n 2) = n / 2 := by rw [t2, w64 (by omega) (by omega)]
    have hxl : (x.size : Int) ≤ n * x.size := by
      have := Int.mul_le_mul_of_nonneg_right (show (1 : Int) ≤ n by omega) (show (0 : Int) ≤ x.size by omega)
      omega
    by_cases hm : n % 2 = 1
    · have hs : (x ++ x).size = 2 * x.size := by rw [ByteArray.size_append]; omega
      have ho2 : (o ++ x).size = o.size + x.size := ByteArray.size_append
      have e : n * x.size = x.size + (n / 2) * (2 * x.size) := by
        have h2 : n = 1 + (n / 2) * 2 := by omega
        conv => lhs; rw [h2]
        rw [Int.add_mul, Int.one_mul, Int.mul_assoc]
      obtain ⟨r, hr, hb⟩ := ih (x ++ x) (o ++ x) (n / 2) (by omega) (by omega) (by omega) (by omega) (by omega) (by intro _; rw [hs, ho2]; push_cast; omega)
      refine ⟨r, Ev.step (fun k => ?_) hr, by omega⟩
      simp only [spec_l6Many.l0]
      rw [if_pos h, t1, if_pos hm, if_pos (by omega), if_pos (by omega), t3]
    · have hs : (x ++ x).size = 2 * x.size := by rw [ByteArray.size_append]; omega
      have e : n * x.size = (n / 2) * (2 * x.size) := by
        have h2 : n = (n / 2) * 2 := by omega
        conv => lhs; rw [h2]
        rw [Int.mul_assoc]
      obtain ⟨r, hr, hb⟩ := ih (x ++ x) o (n / 2) (by omega) (by omega) (by omega) (by omega) (by omega) (by intro _; rw [hs]; push_cast; omega)
      refine ⟨r, Ev.step (fun k => ?_) hr, hb⟩
      simp only [spec_l6Many.l0]
      rw [if_pos h, t1, if_neg hm, if_pos (by omega), t3]

theorem raw_loop {l : List Int} (hl : CodeOk l) (d : Nat) : ∀ (o : ByteArray) (n p : Int), n ≤ d → -10 ≤ n → 0 ≤ p → p + d ≤ 1000 → o.size + 5 * d ≤ 1000 →
    ∃ r, Ev (fun k => spec_l71Raw.l0 k o n l p) r ∧ r.1.size ≤ o.size + 5 * d := by
  induction d with
  | zero =>
    intro o n p hn hn2 hp hp2 ho
    exact ⟨(o, p), Ev.step (f := fun _ => some (o, p)) (fun k => by simp only [spec_l71Raw.l0]; rw [if_neg (by omega)]) (Ev.const rfl), by simp⟩
  | succ d ih =>
    intro o n p hn hn2 hp hp2 ho
    by_cases h : n > 0
    rotate_left
    · exact ⟨(o, p), Ev.step (f := fun _ => some (o, p)) (fun k => by simp only [spec_l71Raw.l0]; rw [if_neg h]) (Ev.const rfl), by simp⟩
    obtain ⟨v, hv, hve⟩ := of_ev hl (p := p) (by omega) (by omega) (xs := [(⟨#[97]⟩ : ByteArray), (⟨#[98]⟩ : ByteArray), (⟨#[55]⟩ : ByteArray), (⟨#[46]⟩ : ByteArray), (⟨#[45]⟩ : ByteArray), (⟨#[37, 54, 49]⟩ : ByteArray), (⟨#[37, 50, 102]⟩ : ByteArray), (⟨#[37, 50, 70]⟩ : ByteArray), (⟨#[65]⟩ : ByteArray), (⟨#[126]⟩ : ByteArray), (⟨#[32]⟩ : ByteArray), (⟨#[37]⟩ : ByteArray), (⟨#[37, 52]⟩ : ByteArray), (⟨#[37, 122, 122]⟩ : ByteArray), (⟨#[63]⟩ : ByteArray), (⟨#[195, 169]⟩ : ByteArray)]) (by simp) (by simp)
    have hsz : v.size ≤ 5 := (by decide : ∀ x ∈ _, ByteArray.size x ≤ 5) v hv
    obtain ⟨r, hr, hb⟩ := ih (o ++ v) (n - 1) (p + 1) (by omega) (by omega) (by omega) (by omega) (by rw [ByteArray.size_append]; omega)
    rw [ByteArray.size_append] at hb
    refine ⟨r, Ev.step (f := fun k => (spec_l6Rd_of.f k l p _).bind fun bt => if o.size + bt.1.size ≤ 9223372036854775807 then spec_l71Raw.l0 k (o ++ bt.1) (n - 1) l bt.2 else none) (fun k => ?_) (Ev.bind hve (Ev.pos (by simp only; omega) hr)), by omega⟩
    simp only [spec_l71Raw.l0]
    rw [if_pos h, w64 (x := n - 1) (by omega) (by omega)]

theorem drawn_text {l : List Int} (hw : ∀ x ∈ l, (Lit.int .u8 x).wf = true) : ∃ s, Ev (fun k => spec_DrawEscNorm.f k l) s ∧ s.size ≤ 1000 := by
  obtain ⟨l', ho, hl⟩ := open_ev hw
  unfold spec_DrawEscNorm.f
  obtain ⟨v, hv, h0, h1⟩ := pick_ev hl (p := 0) (n := 40) (by omega) (by omega) (by omega) (by omega)
  by_cases h : v = 0
  · obtain ⟨u, hu, u0, u1⟩ := pick_ev hl (p := 0 + 1) (n := 2) (by omega) (by omega) (by omega) (by omega)
    have hw : wrap64 (60 + u) = 60 + u := w64 (by omega) (by omega)
    obtain ⟨r, hr, hb⟩ := many_loop 100 (⟨#[97]⟩ : ByteArray) (⟨#[]⟩ : ByteArray) (60 + u) (by omega) (by omega) (by omega) (by decide) (by decide) (by
      intro _
      rw [show (⟨#[97]⟩ : ByteArray).size = 1 from rfl, show (⟨#[]⟩ : ByteArray).size = 0 from rfl]; omega)
    refine ⟨r, Ev.bind0 ho (Ev.bind hv (Ev.pos h (Ev.bind hu (Ev.bind (a := r) ?_ (Ev.const rfl))))), ?_⟩
    · simp only [spec_l6Many.f, hw]; exact hr
    · rcases hb with hb | hb
      · rw [show (⟨#[]⟩ : ByteArray).size = 0 from rfl] at hb; omega
      · exact hb
  · obtain ⟨u, hu, u0, u1⟩ := pick_ev hl (p := 0 + 1) (n := 5) (by omega) (by omega) (by omega) (by omega)
    obtain ⟨r, hr, hb⟩ := raw_loop hl 5 (⟨#[]⟩ : ByteArray) u (0 + 1 + 1) (by omega) (by omega) (by omega) (by omega) (by decide)
    refine ⟨r.1, Ev.bind0 ho (Ev.bind hv (Ev.neg h (Ev.bind (a := r) ?_ (Ev.const rfl)))), ?_⟩
    · unfold spec_l71Raw.f
      exact Ev.bind hu hr
    · rw [show (⟨#[]⟩ : ByteArray).size = 0 from rfl] at hb; omega

end Go.Proofs.Ytpganphmapdkcaa.EscD
