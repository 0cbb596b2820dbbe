/- What holds of addresses that are read, and gone to: laws of lists of bytes. No program in sight. Condition: none. -/
-- Cut down by a program of this session (wip/tools/prune.py) to what its claim can name.
import Derived.Test.YtochmlkladpfgaaDoorByteP
namespace Go.Proofs.YtochmlkladpfgaaDoor.AddrP
open Go Go.RowKit Go.Proofs.YtochmlkladpfgaaDoor.Lib Go.Proofs.YtochmlkladpfgaaDoor.EscP Go.Proofs.YtochmlkladpfgaaDoor.CutP Go.Proofs.YtochmlkladpfgaaDoor.AddrP
set_option linter.unusedVariables false
set_option linter.unusedSimpArgs false

theorem read_cross {raw q : T} (h : raw.length + 1 + q.length ≤ 60) : read (raw ++ 35 :: q) = read raw := by
  unfold read
  rw [if_pos (by simp; omega), if_pos (by omega), cutT_append]

end Go.Proofs.YtochmlkladpfgaaDoor.AddrP
