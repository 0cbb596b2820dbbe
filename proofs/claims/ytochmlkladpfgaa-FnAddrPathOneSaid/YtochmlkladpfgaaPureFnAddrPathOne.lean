/- Two ways are the same just if all but the house is; so are drawn ones. Condition: none. -/
import Derived.Test.YtochmlkladpfgaaPx15
import Derived.Test.YtochmlkladpfgaaPx17
import Derived.Test.YtochmlkladpfgaaPx18
import Derived.Test.YtochmlkladpfgaaPx23
import Derived.Test.YtochmlkladpfgaaDrawA
import Derived.Test.YtochmlkladpfgaaAddrI
import Derived.Test.YtochmlkladpfgaaAddrQ
namespace Go.Proofs.Ytochmlkladpfgaa.Pure
open Go hiding stepT
open Go.RowKit Go.Proofs.Ytochmlkladpfgaa.P Go.Proofs.Ytochmlkladpfgaa.Lib Go.Proofs.Ytochmlkladpfgaa.Draw Go.Proofs.Ytochmlkladpfgaa.CutP Go.Proofs.Ytochmlkladpfgaa.AddrP Go.Proofs.Ytochmlkladpfgaa.AddrF Go.Proofs.Ytochmlkladpfgaa.DrawA Go.Proofs.YtochmlkladpfgaaW.PrintWords Go.Proofs.YtochmlkladpfgaaW.PrintLast
set_option linter.unusedVariables false
set_option linter.unusedSimpArgs false

theorem drawn {l : List Int} (hw : ∀ x ∈ l, (Lit.int .u8 x).wf = true) : ∃ h ps b q, Ev (fun k => spec_DrawAddrPath.f k l) (h, ps, b, q) ∧ Small h ps q := by
  obtain ⟨l', ho, hc⟩ := open_ev hw
  obtain ⟨h, ps, b, q, p', he, hs, _⟩ := drawn_struct hc (p := 0) (by omega) (by omega)
  refine ⟨h, ps, b, q, ?_, hs⟩
  unfold spec_DrawAddrPath.f
  exact Ev.bind0 ho (Ev.bind he (Ev.const rfl))
/-- The same just if all but the house is. -/
theorem one {h : ByteArray} {l : List ByteArray} {b : Bool} {q h' : ByteArray} {l' : List ByteArray} {b' : Bool} {q' s t : ByteArray} (hs : L s = if ok (adOf h l b q) then pathT (adOf h l b q) else []) (ht : L t = if ok (adOf h' l' b' q') then pathT (adOf h' l' b' q') else []) (ns : L s ≠ []) (nt : L t ≠ []) :
    (s.toList == t.toList) = decide (h = h ∧ l = l' ∧ b = b' ∧ q = q') := by
  cases hok : ok (adOf h l b q) with
  | false => rw [hok, if_neg Bool.false_ne_true] at hs; exact absurd hs ns
  | true =>
    cases hok' : ok (adOf h' l' b' q') with
    | false => rw [hok', if_neg Bool.false_ne_true] at ht; exact absurd ht nt
    | true =>
      rw [hok, if_pos rfl] at hs
      rw [hok', if_pos rfl] at ht
      rw [beq_toList, decide_eq_decide]
      constructor
      · intro e
        rw [hs, ht] at e
        obtain ⟨e1, e2, e3⟩ := path_one ((ok_iff _).mp hok) (adOf_rng _ _ _ _) ((ok_iff _).mp hok') (adOf_rng _ _ _ _) e
        exact ⟨rfl, map_inj_ L (fun _ _ => L_inj) _ _ e1, e2, L_inj e3⟩
      · rintro ⟨_, rfl, rfl, rfl⟩
        rw [hs, ht]; rfl
theorem FnAddrPathOne : laws_FnAddrPathOne.Pure := by
  intro l l2 hm hb hw hm2 hb2 hw2
  apply Ev.rounds
  unfold laws_FnAddrPathOne.f
  have far : Ev (fun k => laws_FnAddrPathOne.j0 k l l2 true) true := Ev.step (f := fun _ => some true) (fun k => by simp only [laws_FnAddrPathOne.j0]; rw [if_pos trivial]) (Ev.const rfl)
  by_cases c : (l.length : Int) > 1048576
  · exact Ev.pos c far
  refine Ev.neg c ?_
  by_cases c2 : (l2.length : Int) > 1048576
  · rw [decide_eq_true c2]; exact far
  rw [decide_eq_false c2]
  obtain ⟨h, ps, b, q, hd, s1, s2, s3⟩ := drawn hw
  obtain ⟨h', ps', b', q', hd', s1', s2', s3'⟩ := drawn hw2
  have hlen := len_tot ps
  obtain ⟨t, ht, et⟩ := AddrR.addrPath_ev (h := h) (l := ps) (b := b) (q := q) (by omega) (by omega) (by omega)
  obtain ⟨u, hu, eu⟩ := AddrI.addrPath_ev (h := h) (l := ps) (b := b) (q := q) (by omega) (by omega) (by omega)
  obtain rfl : u = t := L_inj (eu.trans et.symm)
  obtain ⟨t', ht', et'⟩ := AddrR.addrPath_ev (h := h') (l := ps') (b := b') (q := q') (by omega) (by omega) (by omega)
  obtain ⟨u', hu', eu'⟩ := AddrI.addrPath_ev (h := h') (l := ps') (b := b') (q := q') (by omega) (by omega) (by omega)
  obtain rfl : u' = t' := L_inj (eu'.trans et'.symm)
  have yes : Ev (fun k => laws_FnAddrPathOne.j1 k u u' true h ps b q h' ps' b' q') true := by
    refine Ev.step (f := fun k => ((spec_AddrPath.f k h ps b q).bind fun t362 => (if u.toList = t362.toList then ((spec_AddrPath.f k h' ps' b' q').bind fun t363 => (some (u'.toList == t363.toList))) else (some false)))) (fun k => by simp only [laws_FnAddrPathOne.j1]; rw [if_pos trivial]) ?_
    exact Ev.bind ht (Ev.pos rfl (Ev.bind ht' (Ev.const (by simp))))
  have rest : Ev (fun k => (if u.toList = ([] : List UInt8) then (laws_FnAddrPathOne.j1 k u u' true h ps b q h' ps' b' q') else (laws_FnAddrPathOne.j1 k u u' (u'.toList == ([] : List UInt8)) h ps b q h' ps' b' q'))) true := by
    by_cases n : L u = []
    · exact Ev.pos ((toList_nil u).mpr n) yes
    refine Ev.neg (fun e => n ((toList_nil u).mp e)) ?_
    by_cases n' : L u' = []
    · rw [show (u'.toList == ([] : List UInt8)) = true by rw [(toList_nil u').mpr n']; rfl]; exact yes
    rw [show (u'.toList == ([] : List UInt8)) = false from beq_eq_false_iff_ne.mpr (fun e => n' ((toList_nil u').mp e))]
    refine Ev.step (f := fun k => ((laws_lpAddr.f k h ps b q h ps' b' q').bind fun t364 => (some ((u.toList == u'.toList) == t364)))) (fun k => by simp only [laws_FnAddrPathOne.j1]; rw [if_neg Bool.false_ne_true]) ?_
    refine Ev.bind (same_ev (by omega)) (Ev.const ?_)
    rw [one eu eu' n n']; simp
  exact Ev.step (fun k => by simp only [laws_FnAddrPathOne.j0]; rw [if_neg Bool.false_ne_true]) (Ev.bind hd (Ev.bind hd' (Ev.bind hu (Ev.bind hu' (Ev.bind ht (Ev.pos rfl (Ev.bind ht' (Ev.pos rfl rest))))))))

end Go.Proofs.Ytochmlkladpfgaa.Pure
