/- Program and reference read the same of all texts; what is read stays as it is. Condition: none. -/
import Derived.Test.YtochmlkladpfgaaDoorPx22
import Derived.Test.YtochmlkladpfgaaDoorPx23
import Derived.Test.YtochmlkladpfgaaDoorPx7
import Derived.Test.YtochmlkladpfgaaDoorReadB
import Derived.Test.YtochmlkladpfgaaDoorEqA
import Derived.Test.YtochmlkladpfgaaDoorMarkS
namespace Go.Proofs.YtochmlkladpfgaaDoor.Pure
open Go hiding stepT
open Go.RowKit Go.Proofs.YtochmlkladpfgaaDoor.P Go.Proofs.YtochmlkladpfgaaDoor.Lib Go.Proofs.YtochmlkladpfgaaDoor.AddrP Go.Proofs.YtochmlkladpfgaaDoor.AddrF Go.Proofs.YtochmlkladpfgaaDoor.AddrR Go.Proofs.YtochmlkladpfgaaDoor.ReadB Go.Proofs.YtochmlkladpfgaaDoorW.PrintWords Go.Proofs.YtochmlkladpfgaaDoorW.PrintLast
set_option linter.unusedVariables false
set_option linter.unusedSimpArgs false

theorem FnExactAddrRead : laws_FnExactAddrRead.Pure := by
  intro s hm
  apply Ev.rounds
  unfold laws_FnExactAddrRead.f
  by_cases c : (s.size : Int) > 1048576
  · exact Ev.pos c (Ev.const rfl)
  obtain ⟨r, hs, hi, ha, s1, s2, hl, s3⟩ := both_ev (s := s) (by omega)
  have S := ExA.eq_ev (h := r.1) (l := r.2.1) (b := r.2.2.1) (q := r.2.2.2.1) (by omega)
  refine Ev.neg c (Ev.bind hs (Ev.bind hi (Ev.bind S (Ev.pos rfl ?_))))
  obtain ⟨l', hk, hz, hM⟩ := MarkS.mark_ev (x := r.2.1) (by omega) (a := 1) (by omega) (by omega)
  have hh := MarkS.held_ev (l := l') (by omega) (a := 1) (by omega) (by omega) hM
  rw [hz] at hh
  rw [show (r.2.2.2.2 != r.2.2.2.2) = false by simp]
  have hH : Ev (fun k => laws_heldAddr.f k r.1 l' r.2.2.1 r.2.2.2.1 1) (1 + (r.2.1.length : Int)) := by
    unfold laws_heldAddr.f
    exact Ev.bind hh (Ev.neg (by omega) (Ev.const rfl))
  have hK : Ev (fun k => laws_markAddr.f k r.1 r.2.1 r.2.2.1 r.2.2.2.1 1) (1 + (r.2.1.length : Int), l') := by
    unfold laws_markAddr.f
    exact Ev.bind hk (Ev.const rfl)
  have last : Ev (fun k => laws_FnExactAddrRead.j1 k (1 + (r.2.1.length : Int)) false r.1 l' r.2.2.1 r.2.2.2.1) true := by
    refine Ev.step (f := fun k => ((laws_heldAddr.f k r.1 l' r.2.2.1 r.2.2.2.1 1).bind fun t630 => (if t630 < 0 then (some false) else (if t630 = (1 + (r.2.1.length : Int)) then (some true) else (some false))))) (fun k => by simp only [laws_FnExactAddrRead.j1]; rw [if_neg Bool.false_ne_true]) ?_
    exact Ev.bind hH (Ev.neg (by omega) (Ev.pos rfl (Ev.const rfl)))
  refine Ev.step (f := fun k => ((laws_markAddr.f k r.1 r.2.1 r.2.2.1 r.2.2.2.1 1).bind fun bt618 => ((laws_heldAddr.f k r.1 bt618.2 r.2.2.1 r.2.2.2.1 1).bind fun t620 => (if t620 < 0 then (some false) else (if t620 = bt618.1 then ((impl_AddrRead.f k s).bind fun bt621 => ((laws_eqAddr.f k bt621.1 bt621.2.1 bt621.2.2.1 bt621.2.2.2.1 r.1 r.2.1 r.2.2.1 r.2.2.2.1).bind fun t629 => (if t629 = true then (laws_FnExactAddrRead.j1 k bt618.1 (bt621.2.2.2.2 != r.2.2.2.2) r.1 bt618.2 r.2.2.1 r.2.2.2.1) else (laws_FnExactAddrRead.j1 k bt618.1 true r.1 bt618.2 r.2.2.1 r.2.2.2.1)))) else (some false)))))) (fun k => by simp only [laws_FnExactAddrRead.j0]; rw [if_neg Bool.false_ne_true]) ?_
  refine Ev.bind hK (Ev.bind hH (Ev.neg (by show ¬ (1 + (r.2.1.length : Int)) < 0; omega) (Ev.pos rfl (Ev.bind hi (Ev.bind S (Ev.pos rfl ?_))))))
  show Ev (fun k => laws_FnExactAddrRead.j1 k (1 + (r.2.1.length : Int)) (r.2.2.2.2 != r.2.2.2.2) r.1 l' r.2.2.1 r.2.2.2.1) true
  rw [show (r.2.2.2.2 != r.2.2.2.2) = false by simp]
  exact last

end Go.Proofs.YtochmlkladpfgaaDoor.Pure
