-- Written by a program of this session (wip/tools/rows.py).
import Derived.Test.YtheakfegchndcaaRows
import Derived.Test.YtheakfegchndcaaPx2
import Derived.Test.YtheakfegchndcaaPureFnExactNoticeFor
import Derived.Test.YtheakfegchndcaaOpen
import Derived.SizedLaws
import Derived.ChangeSlices
import Derived.WalkKit
import Derived.ProofKit
import Derived.OpenShut
import Derived.ShutString
import Derived.ChangeOld
import Derived.Below
namespace Go.Proofs.Ytheakfegchndcaa.fnExactNoticeFor
open Go.ChangeShapes Go.WideShapes Go.ChangeAt Go.RowKit Go.Joins Go.Proofs.YtheakfegchndcaaW.PrintWords Go.Proofs.Ytheakfegchndcaa.Opn
open Go.ChangeMaps (open_string shut_string)
set_option linter.unusedVariables false
theorem own : ownKnob Try.prog.godebug = none := by kernel_rfl
theorem laidOut : laidOutB Try.prog = true := by kernel_rfl
theorem o_strs : Opens Try.prog (Kd.slice 9 Kd.string) 27 (fun l => l.length ≤ maxLen ∧ ∀ x ∈ l, x.size ≤ maxLen) := Opens.slice Try.underlying27 (by kernel_rfl) (Opens.str Try.underlying9 (by kernel_rfl))
theorem o_rule : Opens Try.prog P.k83 83 (fun x => True ∧ x.f1.size ≤ maxLen) := Opens.two (mk := fun a b => (⟨a, b⟩ : P.S83)) (fun _ _ => rfl) Try.underlying83 (by kernel_rfl) rfl rfl (Opens.bool Try.underlying4 (by kernel_rfl)) (Opens.str Try.underlying9 (by kernel_rfl))
theorem o_rules : Opens Try.prog (Kd.slice 83 P.k83) 63 (fun l => l.length ≤ maxLen ∧ ∀ x ∈ l, True ∧ x.f1.size ≤ maxLen) := Opens.slice Try.underlying63 (by kernel_rfl) o_rule
theorem o_group : Opens Try.prog P.k65 65 (fun x => (x.f0.length ≤ maxLen ∧ ∀ y ∈ x.f0, y.size ≤ maxLen) ∧ (x.f1.length ≤ maxLen ∧ ∀ y ∈ x.f1, True ∧ y.f1.size ≤ maxLen) ∧ (Lit.int .i64 x.f2).wf = true) := Opens.three (mk := fun a b c => (⟨a, b, c⟩ : P.S65)) (fun _ _ _ => rfl) Try.underlying65 (by kernel_rfl) rfl rfl rfl o_strs o_rules (Opens.int Try.underlying3 (by kernel_rfl))
theorem o_groups : Opens Try.prog (Kd.slice 65 P.k65) 39 (fun l => l.length ≤ maxLen ∧ ∀ x ∈ l, (x.f0.length ≤ maxLen ∧ ∀ y ∈ x.f0, y.size ≤ maxLen) ∧ (x.f1.length ≤ maxLen ∧ ∀ y ∈ x.f1, True ∧ y.f1.size ≤ maxLen) ∧ (Lit.int .i64 x.f2).wf = true) := Opens.slice Try.underlying39 (by kernel_rfl) o_group
set_option maxRecDepth 100000 in
theorem lifted (os : Os) (started : os.Started) (H : Type) (enc : TypeId × Value → H) :
    ReturnsInHanded {} Try.checked os 10 .any (Rows.fnExactNoticeForSpec.pre6 enc Try.prog Try.f10 Rows.fnExactNoticeForRow.domain false) (Rows.fnExactNoticeForSpec.post enc Try.prog Try.f10 false true false false) := by
  refine returnsInHanded_of_change_sized (C := Try.checked) own started (by kernel_rfl) Try.func10
    (ChangeSpec.witness6 (enc := enc) (C := Try.checked) false ⟨#[], #[.slice none 0 0, .string ByteArray.empty], []⟩ 8 (by kernel_rfl) (by kernel_rfl) (by kernel_rfl) (by kernel_rfl)) ?_
  intro W base args ds gs before hval0 hW hcnd hsz0 _
  have hsz : (DataW.weightsEach Try.prog (Try.f10.params.toList ++ Rows.fnExactNoticeForSpec.plain.varTypes Try.prog) (ds ++ gs)).all (· ≤ reachBytes) = true := hsz0
  have hval : ∀ (j : Nat) t v, Try.f10.params[j]? = some t → args[j]? = some v → Value.okWide Try.prog W .any base t v := hval0
  have hW' := hW
  obtain ⟨p, q, hA0, hV, rfl, hfz, hnd⟩ := hW
  have hA : DataW.TrodAll enc Try.prog W 0 (fun _ => true) true Try.f10.params.toList args.toList ds p := hA0
  rw [Try.params10] at hA hval hsz
  obtain ⟨v0, vs0, d0, ds0, p0, q0, hargs, rfl, rfl, h0, r0⟩ := trodAll_cons hA
  obtain ⟨v1, vs1, d1, ds1, p1, q1, rfl, rfl, rfl, h1, r1⟩ := trodAll_cons r0
  obtain ⟨rfl, rfl, rfl⟩ := trodAll_nil r1
  obtain rfl : args = #[v0, v1] := by cases args; simp_all
  obtain ⟨rfl, rfl⟩ := trodVars_none hV
  have k0 := h0
  have lt0 : ∀ x ∈ p0, x.block < W.heap.size := by obtain ⟨m, hm⟩ := k0; exact DataW.trod_lt m _ _ _ hm
  obtain ⟨a0, len0, cap0, rfl⟩ := okWide_slice Try.underlying39 (hval 0 39 v0 rfl rfl)
  obtain ⟨fuel0, hf0⟩ := h0
  obtain ⟨A0, e0, l0, x0, hc0, hr0, hm0, ho0⟩ := o_groups.row (v := .slice a0 len0 cap0) hf0
  injection x0 with i0_0 i1_0 i2_0
  subst i0_0 i1_0 i2_0
  obtain ⟨a1, rfl, rfl, rfl, y1⟩ := open_string Try.underlying9 (hval 1 9 v1 rfl rfl) h1
  have w1 : a1.size ≤ 140737488351232 := by
    have z := sized_string hsz (j := 1) (t := 9) rfl rfl
    rw [Array.length_toList] at z
    exact z
  clear hA0 hval0 hsz0 hsz
  obtain ⟨k, hp⟩ := Pure.FnExactNoticeFor l0 a1 hm0 ho0 w1
  refine (P.laws_FnExactNoticeFor.calls k _ _ l0 a1 true W hr0 hc0 hp).mono fun e W' ⟨he, bel⟩ => ?_
  subst he
  exact ⟨_, rfl, _, _, _, [], _, [], hW', trodAll_mk1 (shut_bool Try.underlying4 _), (trodAll_cons_mk (Below.trod laidOut (by kernel_rfl) (of_decide_eq_true (by kernel_rfl)) k0 bel lt0) (trodAll_cons_mk (shut_string Try.underlying9 y1) trodAll_mk0)), rfl, bel.frame _, fun h => by cases h⟩
theorem over : Rows.fnExactNoticeForRow.holds Try.pinned (OpenSpec.ofChange Rows.fnExactNoticeForSpec) :=
  OpenClaim.holds_of_wide 10 Try.f10 rfl rfl rfl rfl rfl rfl rfl ⟨rfl, rfl, rfl, rfl, rfl⟩ rfl rfl rfl rfl rfl (by kernel_rfl) Try.func10 (by kernel_rfl)
    (of_decide_eq_true (by kernel_rfl)) (by unfold Func.isWrapper; first | (rw [if_pos (by decide +kernel)]; kernel_rfl) | (rw [if_neg (by decide +kernel)]; exact ⟨rfl, rfl⟩))
    (fun os started H enc _ => lifted os started H enc)
theorem proved : Rows.FnExactNoticeForSaid := over
#print axioms proved
end Go.Proofs.Ytheakfegchndcaa.fnExactNoticeFor
namespace Go.Proofs.Ytheakfegchndcaa
/-- The row, under a short name, for the claim. -/
theorem fnExactNoticeFor_holds : Rows.FnExactNoticeForSaid := fnExactNoticeFor.proved
end Go.Proofs.Ytheakfegchndcaa
