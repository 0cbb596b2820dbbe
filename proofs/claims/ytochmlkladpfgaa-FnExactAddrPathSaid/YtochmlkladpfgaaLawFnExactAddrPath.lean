-- Written by a program of this session (wip/tools/rows.py).
import Derived.Test.YtochmlkladpfgaaRows
import Derived.Test.YtochmlkladpfgaaPx25
import Derived.Test.YtochmlkladpfgaaPureFnExactAddrPath
import Derived.Test.YtochmlkladpfgaaOpen
import Derived.Test.YtochmlkladpfgaaWSized
import Derived.WalkKit
import Derived.ProofKit
import Derived.OpenShut
import Derived.ShutString
import Derived.ChangeOld
import Derived.Below
import Derived.SizedLaws
namespace Go.Proofs.Ytochmlkladpfgaa.fnExactAddrPath
open Go.ChangeShapes Go.WideShapes Go.ChangeAt Go.RowKit Go.Joins Go.Proofs.YtochmlkladpfgaaW.PrintWords Go.Proofs.Ytochmlkladpfgaa.Opn
open Go.ChangeMaps (open_string shut_string)
set_option linter.unusedVariables false
theorem own : ownKnob Try.prog.godebug = none := by kernel_rfl
theorem laidOut : laidOutB Try.prog = true := by kernel_rfl
theorem o_strs : Opens Try.prog (Kd.slice 9 Kd.string) 22 (fun l => l.length ≤ maxLen ∧ ∀ x ∈ l, x.size ≤ maxLen) := Opens.slice Try.underlying22 (by kernel_rfl) (Opens.str Try.underlying9 (by kernel_rfl))
set_option maxRecDepth 100000 in
theorem lifted (os : Os) (started : os.Started) (H : Type) (enc : TypeId × Value → H) :
    ReturnsInHanded {} Try.checked os 4 .any (Rows.fnExactAddrPathSpec.pre6 enc Try.prog Try.f4 Rows.fnExactAddrPathRow.domain false) (Rows.fnExactAddrPathSpec.post enc Try.prog Try.f4 false true false false) := by
  refine returnsInHanded_of_change_sized (C := Try.checked) own started (by kernel_rfl) Try.func4
    (ChangeSpec.witness6 (enc := enc) (C := Try.checked) false ⟨#[], #[.agg #[.string ByteArray.empty, .slice none 0 0, .bool false, .string ByteArray.empty]], []⟩ 8 (by kernel_rfl) (by kernel_rfl) (by kernel_rfl) (by kernel_rfl)) ?_
  intro W base args ds gs before hval0 hW hcnd hsz0 _
  have hsz : (DataW.weightsEach Try.prog (Try.f4.params.toList ++ Rows.fnExactAddrPathSpec.plain.varTypes Try.prog) (ds ++ gs)).all (· ≤ reachBytes) = true := hsz0
  have hval : ∀ (j : Nat) t v, Try.f4.params[j]? = some t → args[j]? = some v → Value.okWide Try.prog W .any base t v := hval0
  have hW' := hW
  obtain ⟨p, q, hA0, hV, rfl, hfz, hnd⟩ := hW
  have hA : DataW.TrodAll enc Try.prog W 0 (fun _ => true) true Try.f4.params.toList args.toList ds p := hA0
  rw [Try.params4] at hA hval hsz
  obtain ⟨v0, vs0, d0, ds0, p0, q0, hargs, rfl, rfl, h0, r0⟩ := trodAll_cons hA
  obtain ⟨rfl, rfl, rfl⟩ := trodAll_nil r0
  obtain rfl : args = #[v0] := by cases args; simp_all
  obtain ⟨rfl, rfl⟩ := trodVars_none hV
  have k0 := h0
  have lt0 : ∀ x ∈ p0, x.block < W.heap.size := by obtain ⟨m, hm⟩ := k0; exact DataW.trod_lt m _ _ _ hm
  obtain ⟨c0_0, c1_0, c2_0, c3_0, y0_0, y1_0, y2_0, y3_0, n_0, rfl, _, _, g0_0, g1_0, g2_0, g3_0⟩ := open_agg4 Try.underlying24 (by kernel_rfl) (by kernel_rfl) (hval 0 24 v0 rfl rfl) h0
  obtain ⟨a0_0, rfl, z0_0⟩ := Opens.text Try.underlying9 g0_0
  obtain ⟨A0_1, e0_1, l0_1, rfl, hc0, hr0, hm0, ho0⟩ := o_strs.row g1_0
  obtain ⟨a0_2, rfl⟩ := Opens.flag Try.underlying4 g2_0
  obtain ⟨a0_3, rfl, z3_0⟩ := Opens.text Try.underlying9 g3_0
  clear hA0 hval0 hsz0 hsz
  obtain ⟨k, hp⟩ := Pure.FnExactAddrPath a0_0 l0_1 a0_2 a0_3 z0_0 hm0 ho0 z3_0
  refine (P.laws_FnExactAddrPath.calls k a0_0 A0_1 e0_1 l0_1 a0_2 a0_3 true W hr0 hc0 hp).mono fun e W' ⟨he, bel⟩ => ?_
  subst he
  exact ⟨_, rfl, _, _, _, [], _, [], hW', trodAll_mk1 (shut_bool Try.underlying4 _), (trodAll_cons_mk (Below.trod laidOut (by kernel_rfl) (of_decide_eq_true (by kernel_rfl)) k0 bel lt0) trodAll_mk0), rfl, bel.frame _, fun h => by cases h⟩
theorem over : Rows.fnExactAddrPathRow.holds Try.pinned (OpenSpec.ofChange Rows.fnExactAddrPathSpec) :=
  OpenClaim.holds_of_wide 4 Try.f4 rfl rfl rfl rfl rfl rfl rfl ⟨rfl, rfl, rfl, rfl, rfl⟩ rfl rfl rfl rfl rfl (by kernel_rfl) Try.func4 (by kernel_rfl)
    (of_decide_eq_true (by kernel_rfl)) (by unfold Func.isWrapper; first | (rw [if_pos (by decide +kernel)]; kernel_rfl) | (rw [if_neg (by decide +kernel)]; exact ⟨rfl, rfl⟩))
    (fun os started H enc _ => lifted os started H enc)
theorem proved : Rows.FnExactAddrPathSaid := over
#print axioms proved
end Go.Proofs.Ytochmlkladpfgaa.fnExactAddrPath
namespace Go.Proofs.Ytochmlkladpfgaa
/-- The row, under a short name, for the claim. -/
theorem fnExactAddrPath_holds : Rows.FnExactAddrPathSaid := fnExactAddrPath.proved
end Go.Proofs.Ytochmlkladpfgaa
