/- What PathClean of the reference answers; what the laws' helpers on lists of strings answer; drawn parts. Condition: not more than a million parts. -/
import Derived.Test.YtpganphmapdkcaaPx7
import Derived.Test.YtpganphmapdkcaaPx8
import Derived.Test.YtpganphmapdkcaaPathP
import Derived.Test.YtpganphmapdkcaaDraw
namespace Go.Proofs.Ytpganphmapdkcaa.PathF
open Go Go.RowKit Go.Proofs.Ytpganphmapdkcaa.P Go.Proofs.Ytpganphmapdkcaa.Lib Go.Proofs.Ytpganphmapdkcaa.Draw Go.Proofs.Ytpganphmapdkcaa.PathP Go.Proofs.YtpganphmapdkcaaW.PrintWords Go.Proofs.YtpganphmapdkcaaW.PrintLast
set_option linter.unusedVariables false
set_option linter.unusedSimpArgs false

theorem rdOf_get {α : Type} {d : α} {l : List α} {i : Int} {b : α} {r : List α} (h : l.drop i.toNat = b :: r) : rdOf d l i = b := by
  have hl : i.toNat < l.length := by
    have := congrArg List.length h
    simp at this; omega
  unfold rdOf
  rw [List.getD_eq_getElem?_getD, List.getElem?_eq_getElem hl]
  rw [List.drop_eq_getElem_cons hl] at h
  injection h with h _
theorem drop_next' {α : Type} {l : List α} {i : Nat} {b : α} {r : List α} (h : l.drop i = b :: r) : l.drop (i + 1) = r := by
  rw [← List.drop_drop, h]; rfl

theorem toList_nil (p : ByteArray) : p.toList = ([] : List UInt8) ↔ L p = [] := by rw [L_of]; simp
theorem toList_lit (p : ByteArray) (l : List UInt8) : p.toList = l ↔ L p = l.map fun b => (b.toNat : Int) := by
  rw [L_of]
  exact ⟨fun h => by rw [h], fun h => map_inj_ _ byte_inj _ _ h⟩
theorem toList_dot (p : ByteArray) : p.toList = ([46] : List UInt8) ↔ L p = [46] := toList_lit p _
theorem toList_dots (p : ByteArray) : p.toList = ([46, 46] : List UInt8) ↔ L p = [46, 46] := toList_lit p _

theorem mx_last {α : Type} (l : List α) (h : l.length ≤ 4000000) : mx (wrap64 ((l.length : Int) - 1)) 0 = ((l.length - 1 : Nat) : Int) := by
  rw [w64 (by omega) (by omega)]
  unfold mx
  split <;> omega

theorem spec_loop (x : List ByteArray) (hx : x.length ≤ 2000000) (d : Nat) : ∀ (i : Int) (o : List ByteArray), 0 ≤ i → i ≤ x.length → (x.length : Int) - i ≤ d → (o.length : Int) ≤ i →
    Ev (fun k => spec_PathClean.l0 k x o i) ((x.drop i.toNat).foldl stepP o) := by
  have hend : ∀ (i : Int) (o : List ByteArray), i = x.length → Ev (fun k => spec_PathClean.l0 k x o i) ((x.drop i.toNat).foldl stepP o) := by
    intro i o hi
    rw [List.drop_of_length_le (by omega)]
    refine Ev.step (f := fun _ => some o) (fun k => ?_) (Ev.const rfl)
    simp only [spec_PathClean.l0]; rw [if_neg (by omega)]
  induction d with
  | zero => intro i o h0 h1 hd ho; exact hend i o (by omega)
  | succ d ih =>
    intro i o h0 h1 hd ho
    by_cases hlt : i < (x.length : Int)
    rotate_left
    · exact hend i o (by omega)
    obtain ⟨p, q, hpq⟩ := drop_lt (l := x) (i := i.toNat) (by omega)
    have hp : rdOf ByteArray.empty x i = p := rdOf_get hpq
    have hn : x.drop (i + 1).toNat = q := by rw [show (i + 1).toNat = i.toNat + 1 by omega]; exact drop_next' hpq
    have w1 : wrap64 (i + 1) = i + 1 := w64 (by omega) (by omega)
    rw [hpq, List.foldl_cons]
    have hmx := mx_last o (by omega)
    have I := fun o' (ho' : (o'.length : Int) ≤ i + 1) => ih (i + 1) o' (by omega) (by omega) (by omega) ho'
    rw [hn] at I
    by_cases hi : Idle p
    · rw [stepP_idle hi]
      refine Ev.step (f := fun k => spec_PathClean.j1 k x o i true) (fun k => ?_) (Ev.step (f := fun k => spec_PathClean.l0 k x o (i + 1)) (fun k => ?_) (I o (by omega)))
      · simp only [spec_PathClean.l0]
        rw [if_pos hlt, if_pos h0, hp]
        rcases hi with hi | hi
        · rw [if_pos ((toList_nil p).mpr hi)]
        · rw [if_neg (fun h => by rw [(toList_nil p).mp h] at hi; cases hi), (toList_dot p).mpr hi]; rfl
      · simp only [spec_PathClean.j1]; rw [if_pos trivial, w1]
    · have e1 : ¬ p.toList = ([] : List UInt8) := fun h => hi (.inl ((toList_nil p).mp h))
      have e2 : (p.toList == ([46] : List UInt8)) = false := beq_eq_false_iff_ne.mpr (fun h => hi (.inr ((toList_dot p).mp h)))
      refine Ev.step (f := fun k => spec_PathClean.j1 k x o i false) (fun k => ?_) ?_
      · simp only [spec_PathClean.l0]
        rw [if_pos hlt, if_pos h0, hp, if_neg e1, e2]
      by_cases hu : Up p
      · rw [stepP_up hu]
        refine Ev.step (f := fun k => spec_PathClean.l0 k x o.dropLast (i + 1)) (fun k => ?_) (I _ (by rw [List.length_dropLast]; omega))
        simp only [spec_PathClean.j1]
        rw [if_neg (by simp), if_pos h0, if_pos hlt, hp, if_pos ((toList_dots p).mpr hu), hmx, if_pos (by omega), if_pos (by omega), w1, Int.toNat_natCast, ← List.dropLast_eq_take]
      · rw [stepP_way ⟨hi, hu⟩]
        refine Ev.step (f := fun k => spec_PathClean.l0 k x (o ++ [p]) (i + 1)) (fun k => ?_) (I _ (by simp; omega))
        simp only [spec_PathClean.j1]
        rw [if_neg (by simp), if_pos h0, if_pos hlt, hp, if_neg (fun h => hu ((toList_dots p).mp h)), if_pos (by omega), w1]

theorem spec_ev {x : List ByteArray} (hx : x.length ≤ 2000000) : Ev (fun k => spec_PathClean.f k x) (clean x) := by
  have := spec_loop x hx x.length 0 [] (by omega) (by omega) (by omega) (by simp)
  simpa [spec_PathClean.f, clean] using this

/-! the laws' helpers -/
theorem texts_loop (a b : List ByteArray) (hb : a.length = b.length) (hx : a.length ≤ 1000000000) (d : Nat) : ∀ i : Int, 0 ≤ i → i ≤ a.length → (a.length : Int) - i ≤ d →
    Ev (fun k => laws_lpTexts.l0 k a b i) (decide (a.drop i.toNat = b.drop i.toNat)) := by
  have hend : ∀ i : Int, i = a.length → Ev (fun k => laws_lpTexts.l0 k a b i) (decide (a.drop i.toNat = b.drop i.toNat)) := by
    intro i hi
    rw [List.drop_of_length_le (by omega), List.drop_of_length_le (by omega)]
    refine Ev.step (f := fun _ => some true) (fun k => ?_) (Ev.const (by simp))
    simp only [laws_lpTexts.l0]; rw [if_neg (by omega)]
  induction d with
  | zero => intro i h0 h1 hd; exact hend i (by omega)
  | succ d ih =>
    intro i h0 h1 hd
    by_cases hlt : i < (a.length : Int)
    rotate_left
    · exact hend i (by omega)
    obtain ⟨p, q, hpq⟩ := drop_lt (l := a) (i := i.toNat) (by omega)
    obtain ⟨p', q', hpq'⟩ := drop_lt (l := b) (i := i.toNat) (by omega)
    have w1 : wrap64 (i + 1) = i + 1 := w64 (by omega) (by omega)
    have hn : a.drop (i + 1).toNat = q := by rw [show (i + 1).toNat = i.toNat + 1 by omega]; exact drop_next' hpq
    have hn' : b.drop (i + 1).toNat = q' := by rw [show (i + 1).toNat = i.toNat + 1 by omega]; exact drop_next' hpq'
    have I := ih (i + 1) (by omega) (by omega) (by omega)
    rw [hn, hn'] at I
    rw [hpq, hpq']
    by_cases hp : p = p'
    · subst hp
      have : decide (p :: q = p :: q') = decide (q = q') := by simp
      rw [this]
      refine Ev.step (f := fun k => laws_lpTexts.l0 k a b (i + 1)) (fun k => ?_) I
      simp only [laws_lpTexts.l0]
      rw [if_pos hlt, if_pos h0, if_pos (by omega), rdOf_get hpq, rdOf_get hpq', if_pos rfl, w1]
    · have : decide (p :: q = p' :: q') = false := by simp [hp]
      rw [this]
      refine Ev.step (f := fun _ => some false) (fun k => ?_) (Ev.const rfl)
      simp only [laws_lpTexts.l0]
      rw [if_pos hlt, if_pos h0, if_pos (by omega), rdOf_get hpq, rdOf_get hpq', if_neg (fun h => hp (toList_inj h))]

theorem texts_ev {a b : List ByteArray} (hx : a.length ≤ 1000000000) : Ev (fun k => laws_lpTexts.f k a b) (decide (a = b)) := by
  unfold laws_lpTexts.f
  by_cases h : a.length = b.length
  · refine Ev.pos (by omega) ?_
    have := texts_loop a b h hx a.length 0 (by omega) (by omega) (by omega)
    simpa using this
  · refine Ev.neg (by omega) (Ev.const ?_)
    rw [decide_eq_false (fun e => h (by rw [e]))]

/-- Parts that are drawn: not many. -/
theorem part_ev {l : List Int} (hl : CodeOk l) {p : Int} (hp : 0 ≤ p) (hp2 : p ≤ 1000000) : ∃ v, Ev (fun k => spec_l71Part.f k l p) (v, p + 1) ∧ v.size ≤ 10 := by
  unfold spec_l71Part.f
  exact of_pair hl hp hp2 (by simp) (by simp) (by decide)

theorem draw_loop {l : List Int} (hl : CodeOk l) (d : Nat) : ∀ (o : List ByteArray) (n p : Int), n ≤ d → -10 ≤ n → 0 ≤ p → p + d ≤ 1000 → o.length + d ≤ 1000 →
    ∃ r, Ev (fun k => spec_DrawPathClean.l0 k o n l p) r ∧ r.length ≤ o.length + d := by
  induction d with
  | zero =>
    intro o n p hn hn2 hp hp2 ho
    exact ⟨o, Ev.step (f := fun _ => some o) (fun k => by simp only [spec_DrawPathClean.l0]; rw [if_neg (by omega)]) (Ev.const rfl), by omega⟩
  | succ d ih =>
    intro o n p hn hn2 hp hp2 ho
    by_cases h : n > 0
    rotate_left
    · exact ⟨o, Ev.step (f := fun _ => some o) (fun k => by simp only [spec_DrawPathClean.l0]; rw [if_neg h]) (Ev.const rfl), by omega⟩
    obtain ⟨v, hv, _⟩ := part_ev hl hp (by omega)
    obtain ⟨r, hr, hlen⟩ := ih (o ++ [v]) (n - 1) (p + 1) (by omega) (by omega) (by omega) (by omega) (by simp; omega)
    refine ⟨r, Ev.step (f := fun k => (spec_l71Part.f k l p).bind fun bt => if o.length < 8796093022208 then spec_DrawPathClean.l0 k (o ++ [bt.1]) (n - 1) l bt.2 else none) (fun k => ?_) (Ev.bind hv (Ev.pos (by omega) hr)), ?_⟩
    · simp only [spec_DrawPathClean.l0]
      rw [if_pos h, w64 (x := n - 1) (by omega) (by omega)]
    · simp at hlen; omega

theorem drawn_parts {l : List Int} (hw : ∀ x ∈ l, (Lit.int .u8 x).wf = true) : ∃ r, Ev (fun k => spec_DrawPathClean.f k l) r ∧ r.length ≤ 8 := by
  obtain ⟨l', ho, hl⟩ := open_ev hw
  unfold spec_DrawPathClean.f
  obtain ⟨v, hv, h0, h1⟩ := pick_ev hl (p := 0) (n := 8) (by omega) (by omega) (by omega) (by omega)
  obtain ⟨r, hr, hlen⟩ := draw_loop hl 8 [] v (0 + 1) (by omega) (by omega) (by omega) (by omega) (by simp)
  exact ⟨r, Ev.bind0 ho (Ev.bind hv hr), by simpa using hlen⟩

end Go.Proofs.Ytpganphmapdkcaa.PathF
