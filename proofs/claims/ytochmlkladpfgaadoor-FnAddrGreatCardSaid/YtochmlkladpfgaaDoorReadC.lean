/- Both read the same, and what they read is short. Condition: texts of at most two million bytes. -/
-- Cut down by a program of this session (wip/tools/prune.py) to what its claim can name.
import Derived.Test.YtochmlkladpfgaaDoorPx4
import Derived.Test.YtochmlkladpfgaaDoorPx6
import Derived.Test.YtochmlkladpfgaaDoorReadB
namespace Go.Proofs.YtochmlkladpfgaaDoor.ReadI
open Go hiding stepT
open Go.RowKit Go.Proofs.YtochmlkladpfgaaDoor.P Go.Proofs.YtochmlkladpfgaaDoor.Lib Go.Proofs.YtochmlkladpfgaaDoor.CutP Go.Proofs.YtochmlkladpfgaaDoor.PathP Go.Proofs.YtochmlkladpfgaaDoor.AddrP Go.Proofs.YtochmlkladpfgaaDoor.AddrF Go.Proofs.YtochmlkladpfgaaDoor.AddrR Go.Proofs.YtochmlkladpfgaaDoor.CutI Go.Proofs.YtochmlkladpfgaaDoorW.PrintWords Go.Proofs.YtochmlkladpfgaaDoorW.PrintLast
open Go.Proofs.YtochmlkladpfgaaDoor.EscP (escN)
set_option linter.unusedVariables false
set_option linter.unusedSimpArgs false
theorem read_ev (s:ByteArray):∃ r,Ev (fun k=>impl_AddrRead.f k s) r ∧ IsAd r (AddrP.read (L s)):=by
 unfold impl_AddrRead.f AddrP.read
 rw [L_length]
 by_cases h60:(s.size:Int) > 60
 ·exact ⟨noAd,Ev.pos h60 (Ev.const rfl),by rw [if_neg (by omega)];rfl⟩
 rw [if_pos (by omega)]
 obtain ⟨c,hc,e1,_,_,z1,_⟩:=CutI.cut_ev (s:=s) 35 (by omega)
 rw [show ((35:UInt8).toNat:Int) = 35 from rfl] at e1
 obtain ⟨r,hr,ha⟩:=whole_ev (s:=c.1) (by omega)
 rw [e1] at ha
 exact ⟨r,Ev.neg h60 (Ev.bind0 hc (Ev.bind hr (Ev.const rfl))),ha⟩
end Go.Proofs.YtochmlkladpfgaaDoor.ReadI
namespace Go.Proofs.YtochmlkladpfgaaDoor.ReadB
open Go hiding stepT
open Go.RowKit Go.Proofs.YtochmlkladpfgaaDoor.P Go.Proofs.YtochmlkladpfgaaDoor.Lib Go.Proofs.YtochmlkladpfgaaDoor.AddrP Go.Proofs.YtochmlkladpfgaaDoor.AddrF Go.Proofs.YtochmlkladpfgaaDoor.AddrR Go.Proofs.YtochmlkladpfgaaDoor.AddrD Go.Proofs.YtochmlkladpfgaaDoor.DrawA Go.Proofs.YtochmlkladpfgaaDoorW.PrintWords Go.Proofs.YtochmlkladpfgaaDoorW.PrintLast
set_option linter.unusedVariables false
set_option linter.unusedSimpArgs false

theorem both_ev {s:ByteArray} (hs:s.size ≤ 2000000):∃ r,Ev (fun k=>spec_AddrRead.f k s) r ∧ Ev (fun k=>impl_AddrRead.f k s) r ∧ IsAd r (AddrP.read (L s)) ∧ r.1.size ≤ 60 ∧ tot r.2.1 ≤ 100 ∧ r.2.1.length ≤ 100 ∧ r.2.2.2.1.size ≤ 60:=by
 obtain ⟨r,hr,ha⟩:=AddrR.read_ev hs
 obtain ⟨r',hr',ha'⟩:=ReadI.read_ev s
 obtain rfl:=ha.one ha'
 obtain ⟨s1,s2,s3⟩:=read_short ha
 have:=len_tot r.2.1
 exact ⟨r,hr,hr',ha,s1,s2,by omega,s3⟩
end Go.Proofs.YtochmlkladpfgaaDoor.ReadB
