/- Both read the same, and what they read is short. Condition: texts of at most two million bytes. -/
-- Cut down by a program of this session (wip/tools/prune.py) to what its claim can name.
import Derived.Test.YtbnnamjaljohiaaDoorPx6
import Derived.Test.YtbnnamjaljohiaaDoorPx9
import Derived.Test.YtbnnamjaljohiaaDoorDrawA
import Derived.Test.YtbnnamjaljohiaaDoorReadI
namespace Go.Proofs.YtbnnamjaljohiaaDoor.ReadB
open Go hiding stepT
open Go.RowKit Go.Proofs.YtbnnamjaljohiaaDoor.P Go.Proofs.YtbnnamjaljohiaaDoor.Lib Go.Proofs.YtbnnamjaljohiaaDoor.AddrP Go.Proofs.YtbnnamjaljohiaaDoor.AddrF Go.Proofs.YtbnnamjaljohiaaDoor.AddrR Go.Proofs.YtbnnamjaljohiaaDoor.AddrD Go.Proofs.YtbnnamjaljohiaaDoor.DrawA Go.Proofs.YtbnnamjaljohiaaDoorW.PrintWords Go.Proofs.YtbnnamjaljohiaaDoorW.PrintLast
set_option linter.unusedVariables false
set_option linter.unusedSimpArgs false

theorem both_ev {s:ByteArray} (hs:s.size ≤ 2000000):∃ r,Ev (fun k=>spec_AddrRead.f k s) r ∧ Ev (fun k=>impl_AddrRead.f k s) r ∧ IsAd r (AddrP.read (L s)) ∧ r.1.size ≤ 60 ∧ tot r.2.1 ≤ 100 ∧ r.2.1.length ≤ 100 ∧ r.2.2.2.1.size ≤ 60:=by
 obtain ⟨r,hr,ha⟩:=AddrR.read_ev hs
 obtain ⟨r',hr',ha'⟩:=ReadI.read_ev s
 obtain rfl:=ha.one ha'
 obtain ⟨s1,s2,s3⟩:=read_short ha
 have:=len_tot r.2.1
 exact ⟨r,hr,hr',ha,s1,s2,by omega,s3⟩
end Go.Proofs.YtbnnamjaljohiaaDoor.ReadB
