-- Written by a program of this session (wip/tools/rows.py).
import Derived.Test.YtbnnamjaljohiaaDoorRows
import Derived.Test.YtbnnamjaljohiaaDoorPx11
import Derived.Test.YtbnnamjaljohiaaDoorPureFnExactAddrJoin
import Derived.Test.YtbnnamjaljohiaaDoorOpen
import Derived.SizedLaws
import Derived.ChangeSlices
import Derived.Test.YtbnnamjaljohiaaDoorTie
import Derived.Test.YtbnnamjaljohiaaDoorCards
import Derived.WalkKit
import Derived.ProofKit
import Derived.OpenShut
import Derived.ShutString
import Derived.ChangeOld
import Derived.Below
import Derived.LaidMore
import Derived.Lay
import Derived.SevenTiedAt
import Derived.Stop.Joined
namespace Go.Proofs.YtbnnamjaljohiaaDoor.fnExactAddrJoin
open Go.ChangeShapes Go.WideShapes Go.ChangeAt Go.RowKit Go.Joins Go.Proofs.YtbnnamjaljohiaaDoorW.PrintWords Go.Proofs.YtbnnamjaljohiaaDoor.Opn
open Go.ChangeMaps (open_string shut_string)
set_option linter.unusedVariables false
theorem own : ownKnob Tryd.prog.godebug = none := by kernel_rfl
theorem laidOut : laidOutB Tryd.prog = true := by kernel_rfl
theorem o_strs : Opens Tryd.prog (Kd.slice 9 Kd.string) 23 (fun l => l.length ≤ maxLen ∧ ∀ x ∈ l, x.size ≤ maxLen) := Opens.slice Tryd.underlying23 (by kernel_rfl) (Opens.str Tryd.underlying9 (by kernel_rfl))
abbrev laid : List (String × DataW Unit) := [("unicode/utf8.acceptRanges", Rows.laid_unicode_utf8_acceptRanges), ("unicode/utf8.first", Rows.laid_unicode_utf8_first)]
set_option maxRecDepth 100000 in
theorem lifted (os : Os) (started : os.Started) (H : Type) (enc : TypeId × Value → H) :
    ReturnsInHanded {} Tryd.checked os 5 .any (fun w args => (Rows.fnExactAddrJoinSpec.pre enc Tryd.prog Tryd.f5 Rows.fnExactAddrJoinRow.domain false w args ∧ laidMetH Tryd.prog laid w) ∧ sizedMet enc Tryd.prog Tryd.f5 (OpenSpec.ofChange Rows.fnExactAddrJoinSpec) false w args)
      (Rows.fnExactAddrJoinSpec.post enc Tryd.prog Tryd.f5 false true false false) := by
  refine returnsInHanded_of_change_and (C := Tryd.checked) (X := fun w _ => laidMetH Tryd.prog laid w) (fun _ _ _ hh h => h.of_heap hh) own started (by kernel_rfl) Tryd.func5
    (ChangeSpec.witness_shaped (enc := enc) (C := Tryd.checked) (os := os) (X := fun w _ => laidMetH Tryd.prog laid w) false (World.laidAll Tryd.prog os laid) #[.agg #[.string ByteArray.empty, .slice none 0 0, .bool false, .string ByteArray.empty], .string ByteArray.empty] 8 (World.laidAll_os _ _ _)
      (World.shaped_of_ZipB (by kernel_rfl) (by kernel_rfl)) (by kernel_rfl) (by kernel_rfl) (by kernel_rfl)
      (by rw [MakeChecks.laidMetH_plain _ _ _ (by kernel_rfl)]; exact laidMet_laidAll _ (by kernel_rfl) (by kernel_rfl))) ?_
  intro W base args ds gs before hval0 hW hcnd hsz0 hL _
  have hsz : (DataW.weightsEach Tryd.prog (Tryd.f5.params.toList ++ Rows.fnExactAddrJoinSpec.plain.varTypes Tryd.prog) (ds ++ gs)).all (· ≤ reachBytes) = true := hsz0
  have hval : ∀ (j : Nat) t v, Tryd.f5.params[j]? = some t → args[j]? = some v → Value.okWide Tryd.prog W .any base t v := hval0
  have hW' := hW
  obtain ⟨p, q, hA0, hV, rfl, hfz, hnd⟩ := hW
  have hA : DataW.TrodAll enc Tryd.prog W 0 (fun _ => true) true Tryd.f5.params.toList args.toList ds p := hA0
  rw [Tryd.params5] at hA hval hsz
  obtain ⟨v0, vs0, d0, ds0, p0, q0, hargs, rfl, rfl, h0, r0⟩ := trodAll_cons hA
  obtain ⟨v1, vs1, d1, ds1, p1, q1, rfl, rfl, rfl, h1, r1⟩ := trodAll_cons r0
  obtain ⟨rfl, rfl, rfl⟩ := trodAll_nil r1
  obtain rfl : args = #[v0, v1] := by cases args; simp_all
  obtain ⟨rfl, rfl⟩ := trodVars_none hV
  have k0 := h0
  have lt0 : ∀ x ∈ p0, x.block < W.heap.size := by obtain ⟨m, hm⟩ := k0; exact DataW.trod_lt m _ _ _ hm
  obtain ⟨c0_0, c1_0, c2_0, c3_0, y0_0, y1_0, y2_0, y3_0, n_0, rfl, _, _, g0_0, g1_0, g2_0, g3_0⟩ := open_agg4 Tryd.underlying36 (by kernel_rfl) (by kernel_rfl) (hval 0 36 v0 rfl rfl) h0
  obtain ⟨a0_0, rfl, z0_0⟩ := Opens.text Tryd.underlying9 g0_0
  obtain ⟨A0_1, e0_1, l0_1, rfl, hc0, hr0, hm0, ho0⟩ := o_strs.row g1_0
  obtain ⟨a0_2, rfl⟩ := Opens.flag Tryd.underlying4 g2_0
  obtain ⟨a0_3, rfl, z3_0⟩ := Opens.text Tryd.underlying9 g3_0
  obtain ⟨a1, rfl, rfl, rfl, y1⟩ := open_string Tryd.underlying9 (hval 1 9 v1 rfl rfl) h1
  have w1 : a1.size ≤ 140737488351232 := by
    have z := sized_string hsz (j := 1) (t := 9) rfl rfl
    rw [Array.length_toList] at z
    exact z
  clear hA0 hval0 hsz0 hsz hL
  obtain ⟨k, hp⟩ := Pure.FnExactAddrJoin a0_0 l0_1 a0_2 a0_3 a1 z0_0 hm0 ho0 z3_0 w1
  refine (P.laws_FnExactAddrJoin.calls k a0_0 A0_1 e0_1 l0_1 a0_2 a0_3 a1 true W hr0 hc0 hp).mono fun e W' ⟨he, bel⟩ => ?_
  subst he
  exact ⟨_, rfl, _, _, _, [], _, [], hW', trodAll_mk1 (shut_bool Tryd.underlying4 _), (trodAll_cons_mk (Below.trod laidOut (by kernel_rfl) (of_decide_eq_true (by kernel_rfl)) k0 bel lt0) (trodAll_cons_mk (shut_string Tryd.underlying9 y1) trodAll_mk0)), rfl, bel.frame _, fun h => by cases h⟩
theorem over : Rows.fnExactAddrJoinRow.holds Tryd.pinned (OpenSpec.ofChange Rows.fnExactAddrJoinSpec) :=
  OpenClaim.holds_of_wide 5 Tryd.f5 rfl rfl rfl rfl rfl rfl rfl ⟨rfl, rfl, rfl, rfl, rfl⟩ rfl rfl rfl rfl rfl (by kernel_rfl) Tryd.func5 (by kernel_rfl)
    (of_decide_eq_true (by kernel_rfl)) (by unfold Func.isWrapper; first | (rw [if_pos (by decide +kernel)]; kernel_rfl) | (rw [if_neg (by decide +kernel)]; exact ⟨rfl, rfl⟩))
    (fun os started H enc _ => lifted os started H enc)
theorem proved : Rows.FnExactAddrJoinCardSaid :=
  Claim7.holds_tied_plain_at .later [] [.data, .pinned] true (true, "4a49a9f1dcc4e4548cbf6b20141b72940d22b3202c3c4aedd59b340bc8c2ec91") false over (fun _ h => by cases h) (by kernel_rfl) (fun _ h => by cases h) fnExactAddrJoin_row_tie rfl ⟨rfl, rfl⟩ (by kernel_rfl) rfl
    (fun f fn hf hfn => by
      obtain rfl : f = 5 := Option.some.inj ((show Tryd.prog.funcNamed "loop.example/pedlar/laws.FnExactAddrJoin" = some 5 by kernel_rfl).symm.trans hf) |>.symm
      obtain rfl : fn = Tryd.f5 := (Option.some.inj (Tryd.func5.symm.trans hfn)).symm
      exact ⟨by kernel_rfl, fun j t ht => by
        rw [Tryd.params5] at ht
        have hm : t ∈ [36, 9] := by simpa using Array.mem_of_getElem? ht
        have hall : ([36, 9].all fun u => !Tryd.prog.wantsStandIn u) = true := by kernel_rfl
        exact (show Tryd.prog.wantsStandIn t = false by simpa using List.all_eq_true.1 hall t hm)⟩)
    (by kernel_rfl)
#print axioms proved
end Go.Proofs.YtbnnamjaljohiaaDoor.fnExactAddrJoin
namespace Go.Proofs.YtbnnamjaljohiaaDoor
/-- The row, under a short name, for the claim. -/
theorem fnExactAddrJoin_holds : Rows.FnExactAddrJoinCardSaid := fnExactAddrJoin.proved
end Go.Proofs.YtbnnamjaljohiaaDoor
