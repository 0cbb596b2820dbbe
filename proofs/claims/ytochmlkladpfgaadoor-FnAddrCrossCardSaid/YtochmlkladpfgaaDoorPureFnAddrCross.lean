/- What stands behind a cross is not read. Condition: none. -/
import Derived.Test.YtochmlkladpfgaaDoorPx15
import Derived.Test.YtochmlkladpfgaaDoorPx19
import Derived.Test.YtochmlkladpfgaaDoorPx7
import Derived.Test.YtochmlkladpfgaaDoorReadB
import Derived.Test.YtochmlkladpfgaaDoorDrawT
import Derived.Test.YtochmlkladpfgaaDoorAddrQ
namespace Go.Proofs.YtochmlkladpfgaaDoor.Pure
open Go hiding stepT
open Go.RowKit Go.Proofs.YtochmlkladpfgaaDoor.P Go.Proofs.YtochmlkladpfgaaDoor.Lib Go.Proofs.YtochmlkladpfgaaDoor.Draw Go.Proofs.YtochmlkladpfgaaDoor.AddrP Go.Proofs.YtochmlkladpfgaaDoor.AddrF Go.Proofs.YtochmlkladpfgaaDoor.AddrR Go.Proofs.YtochmlkladpfgaaDoor.DrawA Go.Proofs.YtochmlkladpfgaaDoor.ReadB Go.Proofs.YtochmlkladpfgaaDoorW.PrintWords Go.Proofs.YtochmlkladpfgaaDoorW.PrintLast
set_option linter.unusedVariables false
set_option linter.unusedSimpArgs false

theorem FnAddrCross : laws_FnAddrCross.Pure := by
  intro l hm hb hw
  apply Ev.rounds
  unfold laws_FnAddrCross.f
  by_cases c : (l.length : Int) > 1048576
  · exact Ev.pos c (Ev.const rfl)
  obtain ⟨t, hd, hz⟩ := DrawT.raw_ev hw
  obtain ⟨r, hs, hi, ha, _, _, hl, _⟩ := both_ev (s := t) (by omega)
  have S := self_ev (h := r.1) (l := r.2.1) (b := r.2.2.1) (q := r.2.2.2.1) (by omega)
  refine Ev.neg c (Ev.bind hd (Ev.bind hs (Ev.bind hi (Ev.neg (by simp) (Ev.bind S (Ev.pos rfl ?_))))))
  have w : wrap64 ((t.size : Int) + 2) = t.size + 2 := w64 (by omega) (by omega)
  rw [w]
  by_cases h60 : ((t.size : Int) + 2) > 60
  · rw [decide_eq_true h60]
    refine Ev.step (f := fun k => (if (r.2.2.2.2 == r.2.2.2.2) = true then ((laws_lpAddr.f k r.1 r.2.1 r.2.2.1 r.2.2.2.1 r.1 r.2.1 r.2.2.1 r.2.2.2.1).bind fun t525 => (some t525)) else (some false))) (fun k => by simp only [laws_FnAddrCross.j0]; rw [if_pos trivial]) (Ev.pos (by simp) (Ev.bind S (Ev.const rfl)))
  · rw [decide_eq_false h60]
    obtain ⟨r', hr', ha'⟩ := ReadI.read_ev (t ++ (⟨#[35, 120]⟩ : ByteArray))
    have e : AddrP.read (L (t ++ (⟨#[35, 120]⟩ : ByteArray))) = AddrP.read (L t) := by
      rw [L_append, show L (⟨#[35, 120]⟩ : ByteArray) = 35 :: [120] from rfl]
      exact read_cross (by rw [L_length]; simp only [List.length_cons, List.length_nil]; omega)
    rw [e] at ha'
    obtain rfl := ha'.one ha
    refine Ev.step (f := fun k => (if t.size + 2 ≤ 9223372036854775807 then ((impl_AddrRead.f k (t ++ (⟨#[35, 120]⟩ : ByteArray))).bind fun bt526 => (if (bt526.2.2.2.2 == r'.2.2.2.2) = true then ((laws_lpAddr.f k bt526.1 bt526.2.1 bt526.2.2.1 bt526.2.2.2.1 r'.1 r'.2.1 r'.2.2.1 r'.2.2.2.1).bind fun t534 => (some t534)) else (some false))) else (none))) (fun k => by simp only [laws_FnAddrCross.j0]; rw [if_neg Bool.false_ne_true]) (Ev.pos (by omega) (Ev.bind hr' (Ev.pos (by simp) (Ev.bind S (Ev.const rfl)))))

end Go.Proofs.YtochmlkladpfgaaDoor.Pure
