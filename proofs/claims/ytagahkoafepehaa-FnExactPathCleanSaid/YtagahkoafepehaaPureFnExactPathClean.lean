/- Program and reference clean all ways alike; the way given stays as it is. Condition: none. -/
import Derived.Test.YtagahkoafepehaaPx3
import Derived.Test.YtagahkoafepehaaPathI
import Derived.Test.YtagahkoafepehaaExS
import Derived.Test.YtagahkoafepehaaMarkS
namespace Go.Proofs.Ytagahkoafepehaa.Pure
open Go hiding stepT
open Go.RowKit Go.Proofs.Ytagahkoafepehaa.P Go.Proofs.Ytagahkoafepehaa.Lib Go.Proofs.Ytagahkoafepehaa.PathP Go.Proofs.YtagahkoafepehaaW.PrintWords Go.Proofs.YtagahkoafepehaaW.PrintLast
set_option linter.unusedVariables false
set_option linter.unusedSimpArgs false

theorem clean_len (x : List ByteArray) : ∀ o : List ByteArray, (x.foldl stepP o).length ≤ o.length + x.length := by
  induction x with
  | nil => intro o; simp
  | cons p t ih =>
    intro o
    rw [List.foldl_cons]
    have := ih (stepP o p)
    have h1 : (stepP o p).length ≤ o.length + 1 := by
      unfold stepP
      repeat' split
      all_goals (try simp only [List.length_dropLast, List.length_append, List.length_cons, List.length_nil]); omega
    simp only [List.length_cons]
    omega
theorem FnExactPathClean : ∀ (l0 : List ByteArray), l0.length ≤ maxLen → (∀ x ∈ l0, x.size ≤ maxLen) → ∃ k, laws_FnExactPathClean.f k l0 = some true := by
  intro l hm hs
  apply Ev.rounds
  unfold laws_FnExactPathClean.f
  obtain ⟨n, hn, hb⟩ := ExS.sz_ev hm hs (m := 1048576) (by omega) (by omega)
  refine Ev.bind hn ?_
  by_cases n0 : n < 0
  · exact Ev.pos n0 (Ev.const rfl)
  have b3 : l.length ≤ 1048576 := by have := hb n0; omega
  have T := ExS.to_ev b3
  have E := ExS.eq_ev b3
  have S := PathF.spec_ev (x := l) (by omega)
  have I := PathI.impl_ev (x := l) (by omega)
  have hcl : (clean l).length ≤ 1048576 := by have := clean_len l []; simp only [List.length_nil] at this; unfold clean; omega
  have C := ExS.eq_ev hcl
  obtain ⟨l', hk, hz, hM⟩ := MarkS.mark_ev (x := l) (by omega) (a := 1) (by omega) (by omega)
  obtain ⟨m', hk2, hz2, hM2⟩ := MarkS.mark_ev (x := clean l) (by omega) (a := 1) (by omega) (by omega)
  have hh := MarkS.held_ev (l := m') (by omega) (a := 1) (by omega) (by omega) hM2
  rw [hz2] at hh
  have np : ∀ z : Nat, ¬ (1 + (z : Int)) < 0 := fun z => by omega
  refine Ev.neg n0 (Ev.bind T (Ev.bind S (Ev.bind T (Ev.bind I (Ev.bind C (Ev.pos rfl (Ev.bind T (Ev.bind E (Ev.pos rfl (Ev.bind hk (Ev.neg (np _) (Ev.bind C ?_))))))))))))
  exact Ev.step (fun k => by simp only [laws_FnExactPathClean.j0]; rw [if_neg (by simp)]) (Ev.bind hk2 (Ev.bind hh (Ev.neg (np _) (Ev.pos rfl (Ev.bind T (Ev.bind I (Ev.bind C (Ev.pos rfl (Ev.bind hh (Ev.neg (np _) (Ev.pos rfl (Ev.const rfl))))))))))))

end Go.Proofs.Ytagahkoafepehaa.Pure
