/- An address is its house and its way; so is a drawn one. Condition: none. -/
import Derived.Test.YtochmlkladpfgaaPx14
import Derived.Test.YtochmlkladpfgaaPx15
import Derived.Test.YtochmlkladpfgaaPx18
import Derived.Test.YtochmlkladpfgaaPx22
import Derived.Test.YtochmlkladpfgaaDrawA
import Derived.Test.YtochmlkladpfgaaAddrI
namespace Go.Proofs.Ytochmlkladpfgaa.Pure
open Go hiding stepT
open Go.RowKit Go.Proofs.Ytochmlkladpfgaa.P Go.Proofs.Ytochmlkladpfgaa.Lib Go.Proofs.Ytochmlkladpfgaa.Draw Go.Proofs.Ytochmlkladpfgaa.AddrP Go.Proofs.Ytochmlkladpfgaa.AddrF Go.Proofs.Ytochmlkladpfgaa.DrawA Go.Proofs.YtochmlkladpfgaaW.PrintWords Go.Proofs.YtochmlkladpfgaaW.PrintLast
set_option linter.unusedVariables false
set_option linter.unusedSimpArgs false

theorem drawn {l : List Int} (hw : ∀ x ∈ l, (Lit.int .u8 x).wf = true) : ∃ h ps b q, Ev (fun k => spec_DrawAddrPath.f k l) (h, ps, b, q) ∧ Small h ps q := by
  obtain ⟨l', ho, hc⟩ := open_ev hw
  obtain ⟨h, ps, b, q, p', he, hs, _⟩ := drawn_struct hc (p := 0) (by omega) (by omega)
  refine ⟨h, ps, b, q, ?_, hs⟩
  unfold spec_DrawAddrPath.f
  exact Ev.bind0 ho (Ev.bind he (Ev.const rfl))
theorem FnAddrPath : laws_FnAddrPath.Pure := by
  intro l hm hb hw
  apply Ev.rounds
  unfold laws_FnAddrPath.f
  by_cases c : (l.length : Int) > 1048576
  · exact Ev.pos c (Ev.const rfl)
  obtain ⟨h, ps, b, q, hd, s1, s2, s3⟩ := drawn hw
  obtain ⟨t, ht, et⟩ := AddrR.addrPath_ev (h := h) (l := ps) (b := b) (q := q) (by omega) (by omega) (by omega)
  obtain ⟨u, hu, eu⟩ := AddrI.addrPath_ev (h := h) (l := ps) (b := b) (q := q) (by omega) (by omega) (by omega)
  obtain rfl : u = t := L_inj (eu.trans et.symm)
  refine Ev.neg c (Ev.bind hd (Ev.bind hu (Ev.bind ht (Ev.pos rfl (Ev.bind (AddrF.ok_ev (h := h) (l := ps) (b := b) (q := q) (by omega) (by omega) (by omega)) ?_)))))
  cases hok : ok (adOf h ps b q) with
  | false => exact Ev.step (f := fun k => (spec_AddrPath.f k h ps b q).bind fun t428 => (some (u.toList == t428.toList))) (fun k => by simp only [laws_FnAddrPath.j0]; rw [if_pos (by simp)]) (Ev.bind ht (Ev.const (by simp)))
  | true =>
    rw [hok, if_pos rfl] at eu
    obtain ⟨w, hw2, ew⟩ := AddrI.addrText_ev (h := h) (l := ps) (b := b) (q := q) (by omega) (by omega) (by omega)
    rw [hok, if_pos rfl] at ew
    have h2 : (⟨#[47, 47]⟩ : ByteArray).size = 2 := rfl
    have hlen : u.size ≤ 60 := by
      have := ((ok_iff _).mp hok).len
      unfold textT at this
      simp only [List.length_append, List.length_cons] at this
      rw [← L_length, eu]; omega
    have e : w.toList = (((⟨#[47, 47]⟩ : ByteArray) ++ h) ++ u).toList := by
      rw [toList_iff]
      apply L_inj
      rw [ew, L_append, L_append, eu, show L (⟨#[47, 47]⟩ : ByteArray) = [47, 47] from rfl]
      simp [textT, adOf]
    have hpos : 0 < u.size := by
      rw [← L_length, eu]; unfold pathT; simp
    have hb0 : bt u 0 = 47 := bt_get (s := u) (i := 0) (r := joinS (adOf h ps b q).parts ++ askT (adOf h ps b q)) (by rw [eu]; rfl)
    refine Ev.step (f := fun k => ((impl_AddrText.f k h ps b q).bind fun t429 => (if 2 + h.size ≤ 9223372036854775807 then (if ((⟨#[47, 47]⟩ : ByteArray) ++ h).size + u.size ≤ 9223372036854775807 then (if t429.toList = (((⟨#[47, 47]⟩ : ByteArray) ++ h) ++ u).toList then (if (u.size : Int) > 0 then (if 0 < (u.size : Int) then (some ((bt u 0) == 47)) else (none)) else (some false)) else (some false)) else (none)) else (none)))) (fun k => by simp only [laws_FnAddrPath.j0]; rw [if_neg (by simp)]) ?_
    exact Ev.bind hw2 (Ev.pos (by omega) (Ev.pos (by rw [ByteArray.size_append, h2]; omega) (Ev.pos e (Ev.pos (by omega) (Ev.pos (by omega) (Ev.const (by rw [hb0]; rfl)))))))

end Go.Proofs.Ytochmlkladpfgaa.Pure
