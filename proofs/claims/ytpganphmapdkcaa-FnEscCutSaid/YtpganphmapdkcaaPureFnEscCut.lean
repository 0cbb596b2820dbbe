/- Two texts are written one behind the other; so are drawn ones. Condition: none. -/
import Derived.Test.YtpganphmapdkcaaPx12
import Derived.Test.YtpganphmapdkcaaEscL
namespace Go.Proofs.Ytpganphmapdkcaa.Pure
open Go Go.RowKit Go.Proofs.Ytpganphmapdkcaa.P Go.Proofs.Ytpganphmapdkcaa.Lib Go.Proofs.Ytpganphmapdkcaa.EscP Go.Proofs.Ytpganphmapdkcaa.EscF Go.Proofs.Ytpganphmapdkcaa.EscI Go.Proofs.Ytpganphmapdkcaa.EscD Go.Proofs.Ytpganphmapdkcaa.EscL Go.Proofs.YtpganphmapdkcaaW.PrintWords Go.Proofs.YtpganphmapdkcaaW.PrintLast
set_option linter.unusedVariables false
set_option linter.unusedSimpArgs false

theorem FnEscCut : laws_FnEscCut.Pure := by
  intro l m hm hb hw hm2 hb2 hw2
  apply Ev.rounds
  unfold laws_FnEscCut.f
  have far : Ev (fun k => laws_FnEscCut.j0 k l m true) true := Ev.step (f := fun _ => some true) (fun k => by simp [laws_FnEscCut.j0]) (Ev.const rfl)
  by_cases h : (l.length : Int) > 1048576
  · exact Ev.pos h far
  refine Ev.neg h ?_
  by_cases h2 : (m.length : Int) > 1048576
  · rw [decide_eq_true h2]; exact far
  rw [decide_eq_false h2]
  obtain ⟨a, ha, hza⟩ := drawn_text hw
  obtain ⟨b, hb', hzb⟩ := drawn_text hw2
  obtain ⟨x, x1, x2, hx⟩ := both a
  obtain ⟨y, y1, y2, hy⟩ := both b
  apply Ev.enter
  simp only [laws_FnEscCut.j0, Bool.false_eq_true, if_false]
  refine (Ev.bind ha (Ev.bind hb' (Ev.bind x1 (Ev.bind x2 (Ev.bind y2 (Ev.neg (by simp) (Ev.pos rfl ?_)))))))
  by_cases hxk : x.2 = true
  rotate_left
  · exact Ev.neg hxk (Ev.const (by simp))
  refine Ev.pos hxk ?_
  by_cases hyk : y.2 = true
  rotate_left
  · exact Ev.neg hyk (Ev.const (by simp))
  refine Ev.pos hyk ?_
  rw [w64 (x := (a.size : Int) + b.size) (by omega) (by omega)]
  by_cases hl : (a.size : Int) + b.size > 60
  · exact Ev.pos hl (Ev.const (by simp))
  refine Ev.neg hl (Ev.pos (by omega) ?_)
  obtain ⟨z, _, z2, hz⟩ := both (a ++ b)
  obtain ⟨u, hdu, hu, hLu⟩ := meant hx hxk
  obtain ⟨v, hdv, hv, hLv⟩ := meant hy hyk
  have he : escN (L (a ++ b)) = some (L x.1 ++ L y.1) := by
    unfold escN
    rw [if_pos (by rw [L_length, ByteArray.size_append]; omega), L_append]
    have e1 : esc (L a) = some (L x.1) := by unfold esc; rw [hdu, hLu]; rfl
    have e2 : esc (L b) = some (L y.1) := by unfold esc; rw [hdv, hLv]; rfl
    rw [esc_append e1, e2]; rfl
  obtain ⟨e1, e2⟩ := isNorm_some hz he
  have hxl : x.1.size ≤ 180 := by
    have := (encs_len u).2
    have := (dec_bd _ (Nat.le_refl _) (L_range a) hdu).2
    rw [L_length] at this
    have hh := congrArg List.length hLu
    rw [L_length] at hh
    omega
  have hyl : y.1.size ≤ 180 := by
    have := (encs_len v).2
    have := (dec_bd _ (Nat.le_refl _) (L_range b) hdv).2
    rw [L_length] at this
    have hh := congrArg List.length hLv
    rw [L_length] at hh
    omega
  refine Ev.bind z2 (Ev.pos e1 (Ev.pos (by omega) (Ev.const ?_)))
  have : z.1 = x.1 ++ y.1 := L_inj (by rw [e2, L_append])
  rw [this]; simp

end Go.Proofs.Ytpganphmapdkcaa.Pure
