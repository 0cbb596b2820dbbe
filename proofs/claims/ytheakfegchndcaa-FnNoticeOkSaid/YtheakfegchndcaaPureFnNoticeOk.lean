/- Program and reference tell the same of drawn groups; groups that are ok are ok one by one. Condition: none. -/
import Derived.Test.YtheakfegchndcaaPx0
import Derived.Test.YtheakfegchndcaaPx11
import Derived.Test.YtheakfegchndcaaPx13
import Derived.Test.YtheakfegchndcaaPx23
import Derived.Test.YtheakfegchndcaaDrawG
namespace Go.Proofs.Ytheakfegchndcaa.Pure
open Go Go.RowKit Go.Proofs.Ytheakfegchndcaa.P Go.Proofs.Ytheakfegchndcaa.Lib Go.Proofs.Ytheakfegchndcaa.Draw Go.Proofs.Ytheakfegchndcaa.NoticeF Go.Proofs.Ytheakfegchndcaa.DrawG Go.Proofs.YtheakfegchndcaaW.PrintWords Go.Proofs.YtheakfegchndcaaW.PrintLast
set_option linter.unusedVariables false
set_option linter.unusedSimpArgs false

theorem set_ok {x : List S30} (h : ∀ g ∈ x, Few g) {g : S30} (hg : Few g) (i : Nat) : ∀ y ∈ x.set i g, Few y := by
  intro y hy
  rcases List.mem_or_eq_of_mem_set hy with h' | h'
  · exact h y h'
  · rw [h']; exact hg
theorem first {x : List S30} (h : 0 < (x.length : Int)) : rd_T30 x 0 ∈ x := by
  unfold rd_T30
  rw [List.getD_eq_getElem?_getD, List.getElem?_eq_getElem (show (0 : Int).toNat < x.length by show 0 < x.length; omega)]
  exact List.getElem_mem _
theorem drawn_j {l : List Int} (hl : CodeOk l) {p : Int} (hp : 0 ≤ p) (hp2 : p ≤ 900) {x : List S30} (hx : x.length ≤ 11) (hg : ∀ g ∈ x, GOk g) (b : Bool) (hb : b = true → 0 < (x.length : Int)) : ∃ y, Ev (fun k => spec_DrawNoticeOk.j0 k x b l p) y ∧ y.length ≤ 11 ∧ ∀ g ∈ y, Few g := by
  cases b with
  | false => exact ⟨x, Ev.step (f := fun _ => some x) (fun k => by rw [spec_DrawNoticeOk.j0, if_neg Bool.false_ne_true]) (Ev.const rfl), hx, fun g h => (hg g h).few⟩
  | true =>
    have hpos := hb rfl
    obtain ⟨v, hv, v0, v1⟩ := pick_ev hl hp (n := 3) (by omega) (by omega) (by omega)
    obtain ⟨u, hu, u0, u1⟩ := pick_ev hl (p := p + 1) (n := 2) (by omega) (by omega) (by omega) (by omega)
    have h0 := hg _ (first hpos)
    have F1 : Few (⟨(rd_T30 x 0).f0, (rd_T30 x 0).f1, rd ([(-1), 21, 0] : List Int) v⟩ : S30) := h0.few
    obtain ⟨y, hy⟩ : ∃ y, x.set (0 : Int).toNat (⟨(rd_T30 x 0).f0, (rd_T30 x 0).f1, rd ([(-1), 21, 0] : List Int) v⟩ : S30) = y := ⟨_, rfl⟩
    have hyl : y.length = x.length := by rw [← hy, List.length_set]
    have hyg : ∀ g ∈ y, Few g := by rw [← hy]; exact set_ok (fun g h => (hg g h).few) F1 _
    have hyr : rd_T30 y 0 = (⟨(rd_T30 x 0).f0, (rd_T30 x 0).f1, rd ([(-1), 21, 0] : List Int) v⟩ : S30) := by
      rw [← hy]
      unfold rd_T30
      rw [List.getD_eq_getElem?_getD, List.getElem?_set_self (show (0 : Int).toNat < x.length by show 0 < x.length; omega)]
      rfl
    have hy1 : (rd_T30 y 0).f1.length ≤ 20 := by rw [hyr]; exact h0.2.1
    by_cases c : u = 0
    · refine ⟨y.set (0 : Int).toNat (⟨(rd_T30 y 0).f0, (((rd_T30 y 0).f1) ++ [(⟨false, (⟨#[97]⟩ : ByteArray)⟩ : S57)]), (rd_T30 y 0).f2⟩ : S30), Ev.step (fun k => by rw [spec_DrawNoticeOk.j0, if_pos rfl]) (Ev.bind0 (a := [(-1), 21, 0]) rfl (Ev.bind hv (Ev.pos v0 (Ev.pos (show v < 3 by omega) (Ev.pos hpos (Ev.bind0 (a := y) (congrArg some hy) (Ev.bind hu (Ev.pos c (Ev.pos (show (rd_T30 y 0).f1.length < 5864062014805 by omega) (Ev.const rfl)))))))))), by rw [List.length_set]; omega, set_ok hyg ⟨?_, ?_, ?_⟩ _⟩
      · show (rd_T30 y 0).f0.length ≤ _; rw [hyr]; have := h0.1; show (rd_T30 x 0).f0.length ≤ _; omega
      · show ((rd_T30 y 0).f1 ++ _).length ≤ _; rw [List.length_append]; simp only [List.length_cons, List.length_nil]; omega
      · intro s hs
        have hs : s ∈ (rd_T30 x 0).f0 := by have h : s ∈ (rd_T30 y 0).f0 := hs; rw [hyr] at h; exact h
        have := h0.2.2 s hs; omega
    · exact ⟨y, Ev.step (fun k => by rw [spec_DrawNoticeOk.j0, if_pos rfl]) (Ev.bind0 (a := [(-1), 21, 0]) rfl (Ev.bind hv (Ev.pos v0 (Ev.pos (show v < 3 by omega) (Ev.pos hpos (Ev.bind0 (a := y) (congrArg some hy) (Ev.bind hu (Ev.neg c (Ev.const rfl))))))))), by omega, hyg⟩
theorem drawn {l : List Int} (hw : ∀ x ∈ l, (Lit.int .u8 x).wf = true) : ∃ x, Ev (fun k => spec_DrawNoticeOk.f k l) x ∧ x.length ≤ 11 ∧ ∀ g ∈ x, Few g := by
  obtain ⟨l', ho, hc⟩ := open_ev hw
  obtain ⟨x, p', hx, b1, b2, b3, b4⟩ := groups_ev hc (p := 0) (by omega) (by omega)
  obtain ⟨v, hv, v0, v1⟩ := pick_ev hc (p := p') (n := 3) (by omega) (by omega) (by omega) (by omega)
  unfold spec_DrawNoticeOk.f
  by_cases c : v = 0
  · obtain ⟨y, hy, y1, y2⟩ := drawn_j hc (p := p' + 1) (by omega) (by omega) b1 b2 (decide ((x.length : Int) > 0)) (fun h => of_decide_eq_true h)
    exact ⟨y, Ev.bind0 ho (Ev.bind hx (Ev.bind hv (Ev.pos c hy))), y1, y2⟩
  · obtain ⟨y, hy, y1, y2⟩ := drawn_j hc (p := p' + 1) (by omega) (by omega) b1 b2 false (fun h => absurd h Bool.false_ne_true)
    exact ⟨y, Ev.bind0 ho (Ev.bind hx (Ev.bind hv (Ev.neg c hy))), y1, y2⟩

theorem lines_pos : ∀ x : List S30, 0 ≤ lines x
  | [] => Int.le_refl 0
  | g :: t => by have := lines_pos t; show 0 ≤ lin g + lines t; unfold lin; omega
theorem lines_mem {x : List S30} {g : S30} (h : g ∈ x) : lin g ≤ lines x := by
  induction x with
  | nil => cases h
  | cons y t ih =>
    show lin g ≤ lin y + lines t
    rcases List.mem_cons.mp h with rfl | h
    · have := lines_pos t; omega
    · have := ih h
      have : 0 ≤ lin y := by unfold lin; omega
      omega
theorem one_ok {x : List S30} (h : noticeB x = true) {g : S30} (hg : g ∈ x) : noticeB [g] = true := by
  unfold noticeB at h ⊢
  rw [Bool.and_eq_true, List.all_eq_true, decide_eq_true_eq] at h
  rw [Bool.and_eq_true, List.all_eq_true, decide_eq_true_eq]
  refine ⟨?_, ?_⟩
  · intro y hy; rw [List.mem_singleton.mp hy]; exact h.1 g hg
  · have := lines_mem hg
    show lin g + 0 ≤ 40
    omega
theorem each_loop (x : List S30) (hx : x.length ≤ 11) (hf : ∀ g ∈ x, Few g) (hok : noticeB x = true) (d : Nat) : ∀ i : Int, 0 ≤ i → i ≤ x.length → (x.length : Int) - i ≤ d → Ev (fun k => laws_FnNoticeOk.l0 k x i) true := by
  have hend : ∀ i : Int, ¬ i < (x.length : Int) → Ev (fun k => laws_FnNoticeOk.l0 k x i) true := fun i hi =>
    Ev.step (f := fun k => (impl_NoticeOk.f k ([] : List (S30))).bind fun t439 => (some t439)) (fun k => by rw [laws_FnNoticeOk.l0, if_neg hi]) (Ev.bind (NoticeF.impl_ev (x := []) (by simp) (by intro g hg; cases hg)) (Ev.const rfl))
  induction d with
  | zero => intro i h0 h1 hd; exact hend i (by omega)
  | succ d ih =>
    intro i h0 h1 hd
    by_cases hlt : i < (x.length : Int)
    rotate_left
    · exact hend i hlt
    have w : wrap64 (i + 1) = i + 1 := w64 (by omega) (by omega)
    have hi : i.toNat < x.length := by omega
    have e : (x.take ((i + 1 : Int)).toNat).drop i.toNat = [x[i.toNat]] := by
      rw [show (i + 1).toNat = i.toNat + 1 by omega, List.drop_take, List.drop_eq_getElem_cons hi, show i.toNat + 1 - i.toNat = 1 by omega]
      rfl
    have I := NoticeF.impl_ev (x := [x[i.toNat]]) (by simp) (by intro g hg; rw [List.mem_singleton.mp hg]; exact hf _ (List.getElem_mem hi))
    rw [one_ok hok (List.getElem_mem hi)] at I
    have step : ∀ k, laws_FnNoticeOk.l0 (k + 1) x i = (impl_NoticeOk.f k [x[i.toNat]]).bind fun t438 => (if t438 = true then (laws_FnNoticeOk.l0 k x (i + 1)) else (some false)) := fun k => by
      rw [laws_FnNoticeOk.l0, if_pos hlt, if_pos h0, w, if_pos (by omega), if_pos (by omega), e]
    exact Ev.step step (Ev.bind I (Ev.pos rfl (ih (i + 1) (by omega) (by omega) (by omega))))
theorem FnNoticeOk : laws_FnNoticeOk.Pure := by
  intro l hm hb hw
  apply Ev.rounds
  unfold laws_FnNoticeOk.f
  by_cases c : (l.length : Int) > 1048576
  · exact Ev.pos c (Ev.const rfl)
  obtain ⟨x, hx, hl, hf⟩ := drawn hw
  have S := NoticeF.spec_ev (x := x) (by omega) hf
  have I := NoticeF.impl_ev (x := x) (by omega) hf
  refine Ev.neg c (Ev.bind hx (Ev.bind I (Ev.bind S (Ev.neg (by simp) ?_))))
  cases hok : noticeB x with
  | false =>
    rw [hok] at S
    exact Ev.step (f := fun k => (spec_NoticeOk.f k x).bind fun t433 => (some (false == t433))) (fun k => by simp only [laws_FnNoticeOk.j0]; rw [if_pos (by rfl)]) (Ev.bind S (Ev.const rfl))
  | true =>
    exact Ev.step (fun k => by simp only [laws_FnNoticeOk.j0]; rw [if_neg (by simp)]) (each_loop x hl hf hok x.length 0 (by omega) (by omega) (by omega))

end Go.Proofs.Ytheakfegchndcaa.Pure
