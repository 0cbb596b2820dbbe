-- Written by a program of this session (wip/tools/rows.py).
import Derived.Test.YtmkncihmgbjgnaaRows
import Derived.Test.YtmkncihmgbjgnaaPx17
import Derived.Test.YtmkncihmgbjgnaaPureFnExactRuleLets
import Derived.Test.YtmkncihmgbjgnaaOpen
import Derived.Test.YtmkncihmgbjgnaaWSized
import Derived.WalkKit
import Derived.ProofKit
import Derived.OpenShut
import Derived.ShutString
import Derived.ChangeOld
import Derived.Below
import Derived.SizedLaws
namespace Go.Proofs.Ytmkncihmgbjgnaa.fnExactRuleLets
open Go.ChangeShapes Go.WideShapes Go.ChangeAt Go.RowKit Go.Joins Go.Proofs.YtmkncihmgbjgnaaW.PrintWords Go.Proofs.Ytmkncihmgbjgnaa.Opn
open Go.ChangeMaps (open_string shut_string)
set_option linter.unusedVariables false
theorem own : ownKnob Try.prog.godebug = none := by kernel_rfl
theorem laidOut : laidOutB Try.prog = true := by kernel_rfl
theorem o_rule : Opens Try.prog P.k44 44 (fun x => True ∧ x.f1.size ≤ maxLen) := Opens.two (mk := fun a b => (⟨a, b⟩ : P.S44)) (fun _ _ => rfl) Try.underlying44 (by kernel_rfl) rfl rfl (Opens.bool Try.underlying4 (by kernel_rfl)) (Opens.str Try.underlying9 (by kernel_rfl))
theorem o_rules : Opens Try.prog (Kd.slice 44 P.k44) 23 (fun l => l.length ≤ maxLen ∧ ∀ x ∈ l, True ∧ x.f1.size ≤ maxLen) := Opens.slice Try.underlying23 (by kernel_rfl) o_rule
set_option maxRecDepth 100000 in
theorem lifted (os : Os) (started : os.Started) (H : Type) (enc : TypeId × Value → H) :
    ReturnsInHanded {} Try.checked os 4 .any (Rows.fnExactRuleLetsSpec.pre6 enc Try.prog Try.f4 Rows.fnExactRuleLetsRow.domain false) (Rows.fnExactRuleLetsSpec.post enc Try.prog Try.f4 false true false false) := by
  refine returnsInHanded_of_change_sized (C := Try.checked) own started (by kernel_rfl) Try.func4
    (ChangeSpec.witness6 (enc := enc) (C := Try.checked) false ⟨#[], #[.slice none 0 0, .string ByteArray.empty], []⟩ 8 (by kernel_rfl) (by kernel_rfl) (by kernel_rfl) (by kernel_rfl)) ?_
  intro W base args ds gs before hval0 hW hcnd hsz0 _
  have hsz : (DataW.weightsEach Try.prog (Try.f4.params.toList ++ Rows.fnExactRuleLetsSpec.plain.varTypes Try.prog) (ds ++ gs)).all (· ≤ reachBytes) = true := hsz0
  have hval : ∀ (j : Nat) t v, Try.f4.params[j]? = some t → args[j]? = some v → Value.okWide Try.prog W .any base t v := hval0
  have hW' := hW
  obtain ⟨p, q, hA0, hV, rfl, hfz, hnd⟩ := hW
  have hA : DataW.TrodAll enc Try.prog W 0 (fun _ => true) true Try.f4.params.toList args.toList ds p := hA0
  rw [Try.params4] at hA hval hsz
  obtain ⟨v0, vs0, d0, ds0, p0, q0, hargs, rfl, rfl, h0, r0⟩ := trodAll_cons hA
  obtain ⟨v1, vs1, d1, ds1, p1, q1, rfl, rfl, rfl, h1, r1⟩ := trodAll_cons r0
  obtain ⟨rfl, rfl, rfl⟩ := trodAll_nil r1
  obtain rfl : args = #[v0, v1] := by cases args; simp_all
  obtain ⟨rfl, rfl⟩ := trodVars_none hV
  have k0 := h0
  have lt0 : ∀ x ∈ p0, x.block < W.heap.size := by obtain ⟨m, hm⟩ := k0; exact DataW.trod_lt m _ _ _ hm
  obtain ⟨a0, len0, cap0, rfl⟩ := okWide_slice Try.underlying23 (hval 0 23 v0 rfl rfl)
  obtain ⟨fuel0, hf0⟩ := h0
  obtain ⟨A0, e0, l0, x0, hc0, hr0, hm0, ho0⟩ := o_rules.row (v := .slice a0 len0 cap0) hf0
  injection x0 with i0_0 i1_0 i2_0
  subst i0_0 i1_0 i2_0
  obtain ⟨a1, rfl, rfl, rfl, y1⟩ := open_string Try.underlying9 (hval 1 9 v1 rfl rfl) h1
  have w1 : a1.size ≤ 140737488351232 := by
    have z := sized_string hsz (j := 1) (t := 9) rfl rfl
    rw [Array.length_toList] at z
    exact z
  clear hA0 hval0 hsz0 hsz
  obtain ⟨k, hp⟩ := Pure.FnExactRuleLets l0 a1 hm0 ho0 w1
  refine (P.laws_FnExactRuleLets.calls k _ _ l0 a1 true W hr0 hc0 hp).mono fun e W' ⟨he, bel⟩ => ?_
  subst he
  exact ⟨_, rfl, _, _, _, [], _, [], hW', trodAll_mk1 (shut_bool Try.underlying4 _), (trodAll_cons_mk (Below.trod laidOut (by kernel_rfl) (of_decide_eq_true (by kernel_rfl)) k0 bel lt0) (trodAll_cons_mk (shut_string Try.underlying9 y1) trodAll_mk0)), rfl, bel.frame _, fun h => by cases h⟩
theorem over : Rows.fnExactRuleLetsRow.holds Try.pinned (OpenSpec.ofChange Rows.fnExactRuleLetsSpec) :=
  OpenClaim.holds_of_wide 4 Try.f4 rfl rfl rfl rfl rfl rfl rfl ⟨rfl, rfl, rfl, rfl, rfl⟩ rfl rfl rfl rfl rfl (by kernel_rfl) Try.func4 (by kernel_rfl)
    (of_decide_eq_true (by kernel_rfl)) (by unfold Func.isWrapper; first | (rw [if_pos (by decide +kernel)]; kernel_rfl) | (rw [if_neg (by decide +kernel)]; exact ⟨rfl, rfl⟩))
    (fun os started H enc _ => lifted os started H enc)
theorem proved : Rows.FnExactRuleLetsSaid := over
#print axioms proved
end Go.Proofs.Ytmkncihmgbjgnaa.fnExactRuleLets
namespace Go.Proofs.Ytmkncihmgbjgnaa
/-- The row, under a short name, for the claim. -/
theorem fnExactRuleLets_holds : Rows.FnExactRuleLetsSaid := fnExactRuleLets.proved
end Go.Proofs.Ytmkncihmgbjgnaa
