/- Drawn rules and ways. Condition: none. -/
import Derived.Test.YtmkncihmgbjgnaaPx0
import Derived.Test.YtmkncihmgbjgnaaPx10
import Derived.Test.YtmkncihmgbjgnaaPx11
import Derived.Test.YtmkncihmgbjgnaaPx15
import Derived.Test.YtmkncihmgbjgnaaLetsF
import Derived.Test.YtmkncihmgbjgnaaDrawH
namespace Go.Proofs.Ytmkncihmgbjgnaa.LetsD
open Go hiding stepT
open Go.RowKit Go.Proofs.Ytmkncihmgbjgnaa.P Go.Proofs.Ytmkncihmgbjgnaa.Lib Go.Proofs.Ytmkncihmgbjgnaa.Draw Go.Proofs.Ytmkncihmgbjgnaa.AddrD Go.Proofs.Ytmkncihmgbjgnaa.DrawH Go.Proofs.YtmkncihmgbjgnaaW.PrintWords Go.Proofs.YtmkncihmgbjgnaaW.PrintLast
set_option linter.unusedVariables false
set_option linter.unusedSimpArgs false

theorem rules_loop {l : List Int} (hl : CodeOk l) (d : Nat) : ∀ (n p : Int) (o : List S38), n ≤ d → -10 ≤ n → 0 ≤ p → p + 2 * d ≤ 500 → o.length + d ≤ 500 →
    ∃ r p', Ev (fun k => spec_l71Rules.l0 k o n l p) (r, p') ∧ r.length ≤ o.length + d ∧ p ≤ p' ∧ p' ≤ p + 2 * d := by
  induction d with
  | zero =>
    intro n p o hn hn2 hp hp2 ho
    exact ⟨o, p, Ev.step (f := fun _ => some (o, p)) (fun k => by rw [spec_l71Rules.l0, if_neg (by omega)]) (Ev.const rfl), by omega, by omega, by omega⟩
  | succ d ih =>
    intro n p o hn hn2 hp hp2 ho
    by_cases h : n > 0
    rotate_left
    · exact ⟨o, p, Ev.step (f := fun _ => some (o, p)) (fun k => by rw [spec_l71Rules.l0, if_neg h]) (Ev.const rfl), by omega, by omega, by omega⟩
    obtain ⟨v, hv, h0, h1⟩ := pick_ev hl (p := p) (n := 2) hp (by omega) (by omega) (by omega)
    obtain ⟨a, ha, hsa⟩ := drawn_rule hl (p := p + 1) (by omega) (by omega)
    obtain ⟨r, p', hr, e1, e2, e3⟩ := ih (n - 1) (p + 1 + 1) (o ++ [(⟨(v == 0), a⟩ : S38)]) (by omega) (by omega) (by omega) (by omega) (by simp; omega)
    have w1 : wrap64 (n - 1) = n - 1 := w64 (by omega) (by omega)
    have hlt : o.length < 5864062014805 := by omega
    have step : ∀ k, spec_l71Rules.l0 (k + 1) o n l p = (spec_l6Rd_pick.f k l p 2).bind fun bt358 => ((spec_l71Rule.f k l bt358.2).bind fun bt360 => (if o.length < 5864062014805 then (spec_l71Rules.l0 k (o ++ [(⟨(bt358.1 == 0), bt360.1⟩ : S38)]) (n - 1) l bt360.2) else (none))) := by
      intro k
      rw [spec_l71Rules.l0, if_pos h, w1]
    refine ⟨r, p', Ev.step step (Ev.bind hv (Ev.bind ha (Ev.pos hlt hr))), ?_, by omega, by omega⟩
    rw [List.length_append] at e1
    simp at e1
    omega

theorem drawn {l : List Int} (hw : ∀ x ∈ l, (Lit.int .u8 x).wf = true) : ∃ x s, Ev (fun k => spec_DrawRuleLets.f k l) (x, s) ∧ x.length ≤ 5 := by
  obtain ⟨l', ho, hl⟩ := open_ev hw
  obtain ⟨v, hv, h0, h1⟩ := pick_ev hl (p := 0) (n := 5) (by omega) (by omega) (by omega) (by omega)
  obtain ⟨x, p', hx, e1, e2, e3⟩ := rules_loop hl 5 v (0 + 1) [] (by omega) (by omega) (by omega) (by omega) (by simp)
  obtain ⟨a, p2, ha, has, _, _⟩ := drawn_addr hl (p := p') (by omega) (by omega)
  obtain ⟨r, hr, w, hw, hiw⟩ := drawn_is has
  unfold spec_DrawRuleLets.f spec_l71Rules.f
  exact ⟨x, w, Ev.bind0 ho (Ev.bind (Ev.bind hv hx) (Ev.bind ha (Ev.bind hr (Ev.bind hw (Ev.const rfl))))), by simpa using e1⟩

end Go.Proofs.Ytmkncihmgbjgnaa.LetsD

