/- What holds of addresses that are read, and gone to: laws of lists of bytes. No program in sight. Condition: none. -/
-- Cut down by a program of this session (wip/tools/prune.py) to what its claim can name.
import Derived.Test.YtochmlkladpfgaaByteP
namespace Go.Proofs.Ytochmlkladpfgaa.AddrP
open Go Go.RowKit Go.Proofs.Ytochmlkladpfgaa.Lib Go.Proofs.Ytochmlkladpfgaa.EscP Go.Proofs.Ytochmlkladpfgaa.CutP Go.Proofs.Ytochmlkladpfgaa.AddrP
set_option linter.unusedVariables false
set_option linter.unusedSimpArgs false

/-- Two ok addresses are the same just if their texts are. -/
theorem text_one {a b : Ad} (ha : Ok a) (hra : RngA a) (hb : Ok b) (hrb : RngA b) (h : textT a = textT b) : a = b := by
  have := read_back ha hra
  rw [h, read_back hb hrb] at this
  exact (Option.some.inj this).symm
/-- Two ways are the same just if all but the house is. -/
theorem path_one {a b : Ad} (ha : Ok a) (hra : RngA a) (hb : Ok b) (hrb : RngA b) (h : pathT a = pathT b) : a.parts = b.parts ∧ a.asks = b.asks ∧ a.ask = b.ask := by
  have := way_back ha hra
  rw [h, way_back hb hrb] at this
  have := Option.some.inj this
  simp only [Prod.mk.injEq] at this
  exact ⟨this.1.symm, this.2.1.symm, this.2.2.symm⟩

end Go.Proofs.Ytochmlkladpfgaa.AddrP
