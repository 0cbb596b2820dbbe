/- What is read is ok, and is read back from what is said of it. Condition: none. -/
-- Cut down by a program of this session (wip/tools/prune.py) to what its claim can name.
import Derived.Test.YtochmlkladpfgaaDoorPx15
import Derived.Test.YtochmlkladpfgaaDoorPx17
import Derived.Test.YtochmlkladpfgaaDoorPx21
import Derived.Test.YtochmlkladpfgaaDoorPx5
import Derived.Test.YtochmlkladpfgaaDoorPx7
import Derived.Test.YtochmlkladpfgaaDoorReadB
import Derived.Test.YtochmlkladpfgaaDoorDrawT
import Derived.Test.YtochmlkladpfgaaDoorByteP
import Derived.Test.YtochmlkladpfgaaDoorAddrI
namespace Go.Proofs.YtochmlkladpfgaaDoor.Pure
open Go hiding stepT
open Go.RowKit Go.Proofs.YtochmlkladpfgaaDoor.P Go.Proofs.YtochmlkladpfgaaDoor.Lib Go.Proofs.YtochmlkladpfgaaDoor.Draw Go.Proofs.YtochmlkladpfgaaDoor.AddrP Go.Proofs.YtochmlkladpfgaaDoor.AddrF Go.Proofs.YtochmlkladpfgaaDoor.AddrR Go.Proofs.YtochmlkladpfgaaDoor.DrawA Go.Proofs.YtochmlkladpfgaaDoor.ReadB Go.Proofs.YtochmlkladpfgaaDoorW.PrintWords Go.Proofs.YtochmlkladpfgaaDoorW.PrintLast
set_option linter.unusedVariables false
set_option linter.unusedSimpArgs false

theorem FnAddrStrict : laws_FnAddrStrict.Pure := by
  intro l hm hb hw
  apply Ev.rounds
  unfold laws_FnAddrStrict.f
  by_cases c : (l.length : Int) > 1048576
  · exact Ev.pos c (Ev.const rfl)
  obtain ⟨t, hd, hz⟩ := DrawT.raw_ev hw
  obtain ⟨r, hs, hi, ha, s1, s2, hl, s3⟩ := both_ev (s := t) (by omega)
  have S := self_ev (h := r.1) (l := r.2.1) (b := r.2.2.1) (q := r.2.2.2.1) (by omega)
  refine Ev.neg c (Ev.bind hd (Ev.bind hs (Ev.bind hi (Ev.neg (by simp) (Ev.bind S (Ev.pos rfl ?_))))))
  cases hrd : AddrP.read (L t) with
  | none =>
    rw [hrd] at ha
    have h5 : r.2.2.2.2 = false := by rw [show r = noAd from ha]; rfl
    rw [h5]
    refine Ev.step (f := fun k => (if (false == false) = true then ((laws_lpAddr.f k r.1 r.2.1 r.2.2.1 r.2.2.2.1 r.1 r.2.1 r.2.2.1 r.2.2.2.1).bind fun t525 => (some t525)) else (some false))) (fun k => by simp only [laws_FnAddrStrict.j0]; rw [if_pos (by rfl)]) (Ev.pos (by simp) (Ev.bind S (Ev.const rfl)))
  | some a =>
    have hO := read_ok hrd
    rw [hrd] at ha
    obtain ⟨h5, e⟩ := id ha
    rw [← e] at hO
    obtain ⟨u, hu, eu⟩ := AddrI.addrText_ev (h := r.1) (l := r.2.1) (b := r.2.2.1) (q := r.2.2.2.1) (by omega) (by omega) (by omega)
    rw [(ok_iff _).mpr hO, if_pos rfl] at eu
    obtain ⟨r', hr', ha'⟩ := ReadI.read_ev u
    rw [eu, read_back hO (adOf_rng _ _ _ _), e] at ha'
    obtain rfl := ha'.one ha
    have K := AddrI.ok_ev (h := r'.1) (l := r'.2.1) (b := r'.2.2.1) (q := r'.2.2.2.1) (by omega) (by omega) (by omega)
    rw [(ok_iff _).mpr hO] at K
    refine Ev.step (f := fun k => ((impl_AddrText.f k r'.1 r'.2.1 r'.2.2.1 r'.2.2.2.1).bind fun t573 => ((impl_AddrRead.f k t573).bind fun bt574 => ((impl_AddrOk.f k r'.1 r'.2.1 r'.2.2.1 r'.2.2.2.1).bind fun t582 => (if t582 = true then (if bt574.2.2.2.2 = true then ((laws_lpAddr.f k bt574.1 bt574.2.1 bt574.2.2.1 bt574.2.2.2.1 r'.1 r'.2.1 r'.2.2.1 r'.2.2.2.1).bind fun t583 => (some t583)) else (some false)) else (some false)))))) (fun k => by simp only [laws_FnAddrStrict.j0]; rw [h5, if_neg (by simp)]) (Ev.bind hu (Ev.bind hr' (Ev.bind K (Ev.pos rfl (Ev.pos h5 (Ev.bind S (Ev.const rfl)))))))

end Go.Proofs.YtochmlkladpfgaaDoor.Pure
