/- What the laws on RuleHas draw; which pattern an end or a star may follow. Condition: none. -/
-- Cut down by a program of this session (wip/tools/prune.py) to what its claim can name.
import Derived.Test.YtmkncihmgbjgnaaPx10
import Derived.Test.YtmkncihmgbjgnaaPx11
import Derived.Test.YtmkncihmgbjgnaaPx12
import Derived.Test.YtmkncihmgbjgnaaPx14
import Derived.Test.YtmkncihmgbjgnaaAddrS
import Derived.Test.YtmkncihmgbjgnaaHasS
namespace Go.Proofs.Ytmkncihmgbjgnaa.DrawH
open Go hiding stepT
open Go.RowKit Go.Proofs.Ytmkncihmgbjgnaa.P Go.Proofs.Ytmkncihmgbjgnaa.Lib Go.Proofs.Ytmkncihmgbjgnaa.CutP Go.Proofs.Ytmkncihmgbjgnaa.Draw Go.Proofs.Ytmkncihmgbjgnaa.AddrP Go.Proofs.Ytmkncihmgbjgnaa.AddrF Go.Proofs.Ytmkncihmgbjgnaa.AddrR Go.Proofs.Ytmkncihmgbjgnaa.AddrD Go.Proofs.Ytmkncihmgbjgnaa.MatchP Go.Proofs.Ytmkncihmgbjgnaa.RuleOkF Go.Proofs.Ytmkncihmgbjgnaa.HasI Go.Proofs.YtmkncihmgbjgnaaW.PrintWords Go.Proofs.YtmkncihmgbjgnaaW.PrintLast
set_option linter.unusedVariables false
set_option linter.unusedSimpArgs false

/-- A way that is drawn: short, and without the signs of patterns. -/
def IsWay (w : ByteArray) : Prop := w.size ≤ 60 ∧ (36 : Int) ∉ L w ∧ (42 : Int) ∉ L w
theorem pathT_not {a : Ad} (h : Ok a) (hr : RngA a) {c : Int} (hc : c ≠ 47) (hc2 : c ≠ 63) (ht : tame c = false) : c ∉ pathT a := by
  unfold pathT askT
  rw [List.cons_append, List.mem_cons, List.mem_append]
  rintro (h1 | h1 | h1)
  · exact hc h1
  · exact joinS_not hc (fun p hp => tame_not (h.tameP hr p hp) ht) h1
  · split at h1
    · rcases List.mem_cons.mp h1 with h2 | h2
      · exact hc2 h2
      · exact tame_not (h.tameA hr) ht h2
    · cases h1
theorem drawn_is {v : ByteArray} (hv : v.size ≤ 60) : ∃ r : R5, Ev (fun k => spec_AddrRead.f k v) r ∧ ∃ w, Ev (fun k => spec_AddrPath.f k r.1 r.2.1 r.2.2.1 r.2.2.2.1) w ∧ IsWay w := by
  obtain ⟨r, hr, ha⟩ := read_ev (s := v) (by omega)
  obtain ⟨s1, s2, s3⟩ := read_short ha
  obtain ⟨w, hw, e⟩ := addrPath_ev (h := r.1) (l := r.2.1) (b := r.2.2.1) (q := r.2.2.2.1) (by omega) (by omega) (by omega)
  refine ⟨r, hr, w, hw, ?_⟩
  unfold IsWay
  rw [← L_length, e]
  cases hok : ok (adOf r.1 r.2.1 r.2.2.1 r.2.2.2.1) with
  | true =>
    rw [if_pos rfl]
    have ho := (ok_iff _).mp hok
    have := ho.len
    unfold textT at this
    simp only [List.length_append, List.length_cons] at this
    exact ⟨by omega, pathT_not ho (adOf_rng _ _ _ _) (by decide) (by decide) rfl, pathT_not ho (adOf_rng _ _ _ _) (by decide) (by decide) rfl⟩
  | false => rw [if_neg Bool.false_ne_true]; exact ⟨Nat.zero_le _, by simp, by simp⟩

theorem pick_mn {l : List Int} (hl : CodeOk l) {p : Int} (hp : 0 ≤ p) (hp2 : p ≤ 1000) {n : Nat} (h1 : 1 ≤ n) (h2 : n ≤ 60) :
    ∃ v, Ev (fun k => spec_l6Rd_pick.f k l p (mn (n : Int) 14)) (v, p + 1) ∧ 0 ≤ v ∧ v < n := by
  have hm : 1 ≤ mn (n : Int) 14 ∧ mn (n : Int) 14 ≤ n ∧ mn (n : Int) 14 ≤ 1000 := by unfold mn; split <;> omega
  obtain ⟨v, hv, h0, h3⟩ := pick_ev hl (p := p) (n := mn (n : Int) 14) hp (by omega) hm.1 (by omega)
  exact ⟨v, hv, h0, by omega⟩

theorem drawn_j1 {l : List Int} (hl : CodeOk l) {a w : ByteArray} (ha : a.size ≤ 40) (hw : IsWay w) (x : Bool) (hx : x = true → L w ≠ []) {p : Int} (hp : 0 ≤ p) (hp2 : p ≤ 900) :
    ∃ q, Ev (fun k => spec_DrawRuleHas.j1 k a w x l p) (q, w) ∧ q.size ≤ 100 := by
  have hLw := L_length w
  have hw60 := hw.1
  cases x with
  | false => exact ⟨a, Ev.step (f := fun _ => some (a, w)) (fun k => by rw [spec_DrawRuleHas.j1, if_neg Bool.false_ne_true]) (Ev.const rfl), by omega⟩
  | true =>
    have hne : 1 ≤ w.size := by
      rw [← hLw]
      exact List.length_pos_iff.mpr (hx rfl)
    obtain ⟨v, hv, h0, h1⟩ := pick_mn hl hp (by omega) hne hw.1
    obtain ⟨b, hb, hbe⟩ := of_ev hl (p := p + 1) (by omega) (by omega) (xs := [(⟨#[]⟩ : ByteArray), (⟨#[]⟩ : ByteArray), (⟨#[42]⟩ : ByteArray), (⟨#[36]⟩ : ByteArray)]) (by simp) (by simp)
    have hsb : b.size ≤ 30 := (by decide : ∀ x ∈ _, ByteArray.size x ≤ 30) b hb
    have hw1 : wrap64 (1 + v) = 1 + v := w64 (by omega) (by omega)
    have hes : (w.extract 0 (1 + v).toNat).size ≤ 60 := by rw [ByteArray.size_extract]; omega
    have g1 : 0 ≤ 1 + v := by omega
    have g2 : 1 + v ≤ (w.size : Int) := by omega
    refine ⟨w.extract 0 (1 + v).toNat ++ b, Ev.step (fun k => ?_) (Ev.bind (f := fun k bt435 => (if 0 ≤ (wrap64 (1 + bt435.1)) then (if (wrap64 (1 + bt435.1)) ≤ (w.size : Int) then ((spec_l6Rd_of.f k l bt435.2 (([(⟨#[]⟩ : ByteArray), (⟨#[]⟩ : ByteArray), (⟨#[42]⟩ : ByteArray), (⟨#[36]⟩ : ByteArray)] : List ByteArray))).bind fun bt440 => (if (w.extract 0 ((wrap64 (1 + bt435.1)) : Int).toNat).size + bt440.1.size ≤ 9223372036854775807 then (some ((w.extract 0 ((wrap64 (1 + bt435.1)) : Int).toNat) ++ bt440.1, w)) else (none))) else (none)) else (none))) hv ?_), ?_⟩
    · rw [spec_DrawRuleHas.j1, if_pos rfl]
    · simp only [hw1]
      exact Ev.pos g1 (Ev.pos g2 (Ev.bind hbe (Ev.pos (show (w.extract 0 (1 + v).toNat).size + b.size ≤ 9223372036854775807 by omega) (Ev.const rfl))))
    · rw [ByteArray.size_append]; omega

theorem drawn_j0 {l : List Int} (hl : CodeOk l) {a : ByteArray} (ha : a.size ≤ 40) {p : Int} (hp : 0 ≤ p) (hp2 : p ≤ 500) :
    ∃ q w, Ev (fun k => spec_DrawRuleHas.j0 k a l p) (q, w) ∧ q.size ≤ 100 ∧ IsWay w := by
  obtain ⟨v, p', hv, hvs, hp3, hp4⟩ := drawn_addr hl hp (by omega)
  obtain ⟨r, hr, w, hw, hiw⟩ := drawn_is hvs
  obtain ⟨u, hu, h0, h1⟩ := pick_ev hl (p := p') (n := 2) (by omega) (by omega) (by omega) (by omega)
  have step : ∀ k, spec_DrawRuleHas.j0 (k + 1) a l p = (spec_l71Addr.f k l p).bind fun bt422 => ((spec_AddrRead.f k bt422.1).bind fun bt424 => ((spec_AddrPath.f k bt424.1 bt424.2.1 bt424.2.2.1 bt424.2.2.2.1).bind fun t432 => ((spec_l6Rd_pick.f k l bt422.2 2).bind fun bt433 => (if bt433.1 = 0 then (spec_DrawRuleHas.j1 k a t432 (t432.toList != ([] : List UInt8)) l bt433.2) else (spec_DrawRuleHas.j1 k a t432 false l bt433.2))))) := by
    intro k; rw [spec_DrawRuleHas.j0]
  by_cases hz : u = 0
  · obtain ⟨q, hq, hqs⟩ := drawn_j1 hl ha hiw (w.toList != ([] : List UInt8)) (by rw [bne_toList_nil]; simp) (p := p' + 1) (by omega) (by omega)
    exact ⟨q, w, Ev.step step (Ev.bind hv (Ev.bind hr (Ev.bind hw (Ev.bind hu (Ev.pos hz hq))))), hqs, hiw⟩
  · obtain ⟨q, hq, hqs⟩ := drawn_j1 hl ha hiw false (by simp) (p := p' + 1) (by omega) (by omega)
    exact ⟨q, w, Ev.step step (Ev.bind hv (Ev.bind hr (Ev.bind hw (Ev.bind hu (Ev.neg hz hq))))), hqs, hiw⟩

theorem drawn_rule {l : List Int} (hl : CodeOk l) {p : Int} (hp : 0 ≤ p) (hp2 : p ≤ 1000000) : ∃ v, Ev (fun k => spec_l71Rule.f k l p) (v, p + 1) ∧ v.size ≤ 30 := by
  unfold spec_l71Rule.f
  exact of_pair hl hp hp2 (by simp) (by simp) (by decide)

theorem drawn {l : List Int} (hw : ∀ x ∈ l, (Lit.int .u8 x).wf = true) : ∃ q w, Ev (fun k => spec_DrawRuleHas.f k l) (q, w) ∧ q.size ≤ 100 ∧ IsWay w := by
  obtain ⟨l', ho, hl⟩ := open_ev hw
  obtain ⟨v, hv, hvs⟩ := drawn_rule hl (p := 0) (by omega) (by omega)
  obtain ⟨u, hu, h0, h1⟩ := pick_ev hl (p := 0 + 1) (n := 12) (by omega) (by omega) (by omega) (by omega)
  unfold spec_DrawRuleHas.f
  by_cases hz : u = 0
  · obtain ⟨q, w, h, hq, hwy⟩ := drawn_j0 hl (a := (⟨#[97]⟩ : ByteArray)) (by decide) (p := 0 + 1 + 1) (by omega) (by omega)
    exact ⟨q, w, Ev.bind0 ho (Ev.bind hv (Ev.bind hu (Ev.pos hz h))), hq, hwy⟩
  · obtain ⟨q, w, h, hq, hwy⟩ := drawn_j0 hl (a := v) (by omega) (p := 0 + 1 + 1) (by omega) (by omega)
    exact ⟨q, w, Ev.bind0 ho (Ev.bind hv (Ev.bind hu (Ev.neg hz h))), hq, hwy⟩

end Go.Proofs.Ytmkncihmgbjgnaa.DrawH
