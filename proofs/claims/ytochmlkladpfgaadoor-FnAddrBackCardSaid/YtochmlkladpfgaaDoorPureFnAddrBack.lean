/- What is said of an address is read back. Condition: none. -/
import Derived.Test.YtochmlkladpfgaaDoorPx14
import Derived.Test.YtochmlkladpfgaaDoorPx15
import Derived.Test.YtochmlkladpfgaaDoorPx18
import Derived.Test.YtochmlkladpfgaaDoorPx7
import Derived.Test.YtochmlkladpfgaaDoorDrawA
import Derived.Test.YtochmlkladpfgaaDoorReadI
import Derived.Test.YtochmlkladpfgaaDoorAddrI
namespace Go.Proofs.YtochmlkladpfgaaDoor.Pure
open Go hiding stepT
open Go.RowKit Go.Proofs.YtochmlkladpfgaaDoor.P Go.Proofs.YtochmlkladpfgaaDoor.Lib Go.Proofs.YtochmlkladpfgaaDoor.Draw Go.Proofs.YtochmlkladpfgaaDoor.CutP Go.Proofs.YtochmlkladpfgaaDoor.AddrP Go.Proofs.YtochmlkladpfgaaDoor.AddrF Go.Proofs.YtochmlkladpfgaaDoor.AddrR Go.Proofs.YtochmlkladpfgaaDoor.DrawA Go.Proofs.YtochmlkladpfgaaDoorW.PrintWords Go.Proofs.YtochmlkladpfgaaDoorW.PrintLast
set_option linter.unusedVariables false
set_option linter.unusedSimpArgs false

theorem drawn {l : List Int} (hw : ∀ x ∈ l, (Lit.int .u8 x).wf = true) : ∃ h ps b q, Ev (fun k => spec_DrawAddrText.f k l) (h, ps, b, q) ∧ Small h ps q := by
  obtain ⟨l', ho, hc⟩ := open_ev hw
  obtain ⟨h, ps, b, q, p', he, hs, _⟩ := drawn_struct hc (p := 0) (by omega) (by omega)
  refine ⟨h, ps, b, q, ?_, hs⟩
  unfold spec_DrawAddrText.f
  exact Ev.bind0 ho (Ev.bind he (Ev.const rfl))
theorem FnAddrBack : laws_FnAddrBack.Pure := by
  intro l hm hb hw
  apply Ev.rounds
  unfold laws_FnAddrBack.f
  by_cases c : (l.length : Int) > 1048576
  · exact Ev.pos c (Ev.const rfl)
  obtain ⟨h, ps, b, q, hd, s1, s2, s3⟩ := drawn hw
  have hlen := len_tot ps
  obtain ⟨t, ht, et⟩ := AddrR.addrText_ev (h := h) (l := ps) (b := b) (q := q) (by omega) (by omega) (by omega)
  obtain ⟨u, hu, eu⟩ := AddrI.addrText_ev (h := h) (l := ps) (b := b) (q := q) (by omega) (by omega) (by omega)
  obtain rfl : u = t := L_inj (eu.trans et.symm)
  refine Ev.neg c (Ev.bind hd (Ev.bind hu (Ev.bind ht (Ev.pos rfl ?_))))
  by_cases n : L u = []
  · rw [show (u.toList == ([] : List UInt8)) = true by rw [(toList_nil u).mpr n]; rfl]
    exact Ev.step (f := fun k => ((spec_AddrText.f k h ps b q).bind fun t442 => (some (u.toList == t442.toList)))) (fun k => by simp only [laws_FnAddrBack.j0]; rw [if_pos trivial]) (Ev.bind ht (Ev.const (by simp)))
  rw [show (u.toList == ([] : List UInt8)) = false from beq_eq_false_iff_ne.mpr (fun e => n ((toList_nil u).mp e))]
  cases hok : ok (adOf h ps b q) with
  | false => rw [hok, if_neg Bool.false_ne_true] at eu; exact absurd eu n
  | true =>
    rw [hok, if_pos rfl] at eu
    have O := (ok_iff _).mp hok
    obtain ⟨r, hr, ha⟩ := ReadI.read_ev u
    rw [eu, read_back O (adOf_rng _ _ _ _)] at ha
    obtain ⟨h5, e⟩ := ha
    obtain ⟨e1, e2, e3, e4⟩ := adOf_inj.mp e
    have hz : (u.size : Int) ≤ 60 := by
      have := O.len
      rw [← eu, L_length] at this
      omega
    refine Ev.step (f := fun k => ((impl_AddrRead.f k u).bind fun bt443 => (if bt443.2.2.2.2 = true then ((laws_lpAddr.f k bt443.1 bt443.2.1 bt443.2.2.1 bt443.2.2.2.1 h ps b q).bind fun t451 => (if t451 = true then (some (decide ((u.size : Int) ≤ 60))) else (some false))) else (some false)))) (fun k => by simp only [laws_FnAddrBack.j0]; rw [if_neg Bool.false_ne_true]) ?_
    have S := same_ev (h := r.1) (l := r.2.1) (b := r.2.2.1) (q := r.2.2.2.1) (h' := h) (l' := ps) (b' := b) (q' := q) (by rw [e2]; omega)
    rw [decide_eq_true ⟨e1, e2, e3, e4⟩] at S
    exact Ev.bind hr (Ev.pos h5 (Ev.bind S (Ev.pos rfl (Ev.const (by rw [decide_eq_true hz])))))

end Go.Proofs.YtochmlkladpfgaaDoor.Pure
