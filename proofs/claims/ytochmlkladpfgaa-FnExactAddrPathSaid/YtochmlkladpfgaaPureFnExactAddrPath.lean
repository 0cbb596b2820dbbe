/- Program and reference tell the same of all addresses; an address stays as it is. Condition: none. -/
import Derived.Test.YtochmlkladpfgaaPx25
import Derived.Test.YtochmlkladpfgaaExA
import Derived.Test.YtochmlkladpfgaaAddrI
namespace Go.Proofs.Ytochmlkladpfgaa.Pure
open Go hiding stepT
open Go.RowKit Go.Proofs.Ytochmlkladpfgaa.P Go.Proofs.Ytochmlkladpfgaa.Lib Go.Proofs.Ytochmlkladpfgaa.AddrF Go.Proofs.YtochmlkladpfgaaW.PrintWords Go.Proofs.YtochmlkladpfgaaW.PrintLast
set_option linter.unusedVariables false
set_option linter.unusedSimpArgs false

theorem FnExactAddrPath : ∀ (a0_0 : ByteArray) (l0_1 : List ByteArray) (a0_2 : Bool) (a0_3 : ByteArray), a0_0.size ≤ maxLen → l0_1.length ≤ maxLen → (∀ x ∈ l0_1, x.size ≤ maxLen) → a0_3.size ≤ maxLen → ∃ k, laws_FnExactAddrPath.f k a0_0 l0_1 a0_2 a0_3 = some true := by
  intro h l b q hh hm hs hq
  apply Ev.rounds
  unfold laws_FnExactAddrPath.f
  obtain ⟨r, hr, hb⟩ := ExA.sz_ev (b := b) hh hm hs hq
  refine Ev.bind hr ?_
  by_cases n : r < 0
  · exact Ev.pos n (Ev.const rfl)
  obtain ⟨b1, b2, b3, b4⟩ := hb n
  obtain ⟨t, ht, et⟩ := AddrR.addrPath_ev (h := h) (l := l) (b := b) (q := q) (by omega) (by omega) (by omega)
  obtain ⟨u, hu, eu⟩ := AddrI.addrPath_ev (h := h) (l := l) (b := b) (q := q) (by omega) (by omega) (by omega)
  obtain rfl : u = t := L_inj (eu.trans et.symm)
  exact Ev.neg n (Ev.bind (ExA.to_ev b3) (Ev.bind ht (Ev.bind (ExA.to_ev b3) (Ev.bind hu (Ev.pos rfl (Ev.bind (ExA.to_ev b3) (Ev.bind (ExA.eq_ev b3) (Ev.pos rfl (Ev.const rfl)))))))))

end Go.Proofs.Ytochmlkladpfgaa.Pure
