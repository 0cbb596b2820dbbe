/- Texts cut at a byte: functions of lists of bytes, and what holds of them. No program in sight. Condition: none. -/
import Derived.Test.YtmkncihmgbjgnaaLib
namespace Go.Proofs.Ytmkncihmgbjgnaa.CutP
open Go Go.RowKit Go.Proofs.Ytmkncihmgbjgnaa.Lib Go.Proofs.YtmkncihmgbjgnaaW.PrintWords
set_option linter.unusedVariables false
set_option linter.unusedSimpArgs false

abbrev T := List Int
def Rng (s : T) : Prop := ∀ x ∈ s, 0 ≤ x ∧ x ≤ 255
/-- Cut at the first byte of a kind. -/
def cutT (c : Int) : T → T × T × Bool
  | [] => ([], [], false)
  | b :: r => if b = c then ([], r, true) else (b :: (cutT c r).1, (cutT c r).2.1, (cutT c r).2.2)
/-- Cut at each byte of a kind. -/
def splitT (c : Int) : T → List T
  | [] => [[]]
  | b :: r => if b = c then [] :: splitT c r else (b :: (splitT c r).headD []) :: (splitT c r).tail
/-! cuts -/
theorem cutT_none {c : Int} {p : T} (h : c ∉ p) : cutT c p = (p, [], false) := by
  induction p with
  | nil => rfl
  | cons b r ih =>
    simp only [List.mem_cons, not_or] at h
    simp only [cutT]
    rw [if_neg (fun e => h.1 e.symm), ih h.2]
theorem cutT_at {c : Int} {p : T} (h : c ∉ p) (q : T) : cutT c (p ++ c :: q) = (p, q, true) := by
  induction p with
  | nil => simp [cutT]
  | cons b r ih =>
    simp only [List.mem_cons, not_or] at h
    simp only [List.cons_append, cutT]
    rw [if_neg (fun e => h.1 e.symm), ih h.2]
theorem cutT_fst {c : Int} (p : T) : c ∉ (cutT c p).1 := by
  induction p with
  | nil => simp [cutT]
  | cons b r ih =>
    simp only [cutT]
    split
    · simp
    · rename_i h
      simp only [List.mem_cons, not_or]
      exact ⟨fun e => h e.symm, ih⟩
/-- A text is what is ahead of the cut, and, if there is one, what is behind it. -/
theorem cutT_eq (c : Int) (p : T) : p = (cutT c p).1 ++ (if (cutT c p).2.2 then c :: (cutT c p).2.1 else []) ∧ ((cutT c p).2.2 = false → (cutT c p).2.1 = []) := by
  induction p with
  | nil => simp [cutT]
  | cons b r ih =>
    simp only [cutT]
    split
    · rename_i h; simp [h]
    · refine ⟨?_, ih.2⟩
      simp only [List.cons_append]
      rw [← ih.1]
theorem cutT_append {c : Int} (p q : T) : (cutT c (p ++ c :: q)).1 = (cutT c p).1 := by
  induction p with
  | nil => simp [cutT]
  | cons b r ih =>
    simp only [List.cons_append, cutT]
    split
    · rfl
    · simp [ih]

theorem splitT_ne (c : Int) (p : T) : splitT c p ≠ [] := by
  cases p with
  | nil => simp [splitT]
  | cons b r => simp only [splitT]; split <;> simp
theorem splitT_none {c : Int} {p : T} (h : c ∉ p) : splitT c p = [p] := by
  induction p with
  | nil => rfl
  | cons b r ih =>
    simp only [List.mem_cons, not_or] at h
    simp only [splitT]
    rw [if_neg (fun e => h.1 e.symm), ih h.2]; rfl
theorem splitT_at {c : Int} {p : T} (h : c ∉ p) (q : T) : splitT c (p ++ c :: q) = p :: splitT c q := by
  induction p with
  | nil => simp [splitT]
  | cons b r ih =>
    simp only [List.mem_cons, not_or] at h
    simp only [List.cons_append, splitT]
    rw [if_neg (fun e => h.1 e.symm), ih h.2]; rfl
theorem splitT_append (c : Int) (p q : T) : splitT c (p ++ c :: q) = splitT c p ++ splitT c q := by
  induction p with
  | nil => simp [splitT]
  | cons b r ih =>
    simp only [List.cons_append, splitT]
    split
    · rw [ih]; rfl
    · rw [ih]
      rcases hs : splitT c r with _ | ⟨x, xs⟩
      · exact absurd hs (splitT_ne c r)
      · rfl
theorem splitT_rng {c : Int} {p : T} (h : Rng p) : ∀ x ∈ splitT c p, Rng x := by
  induction p with
  | nil => intro x hx; simp [splitT] at hx; subst hx; intro y hy; cases hy
  | cons b r ih =>
    have hb := h b (by simp)
    have ih := ih (fun x hx => h x (by simp [hx]))
    intro x hx
    simp only [splitT] at hx
    split at hx
    · rcases List.mem_cons.mp hx with rfl | hx
      · intro y hy; cases hy
      · exact ih x hx
    · rcases hs : splitT c r with _ | ⟨y, ys⟩
      · exact absurd hs (splitT_ne c r)
      · rw [hs] at hx ih
        simp only [List.headD_cons, List.tail_cons] at hx
        rcases List.mem_cons.mp hx with rfl | hx
        · intro z hz
          rcases List.mem_cons.mp hz with rfl | hz
          · exact hb
          · exact ih y (by simp) z hz
        · exact ih x (by simp [hx])

theorem splitT_cut (c : Int) (p : T) : splitT c p = if (cutT c p).2.2 then (cutT c p).1 :: splitT c (cutT c p).2.1 else [(cutT c p).1] := by
  induction p with
  | nil => rfl
  | cons b r ih =>
    simp only [splitT, cutT]
    split
    · rfl
    · rw [ih]
      split <;> rfl
theorem cutT_lt {c : Int} {p : T} (h : (cutT c p).2.2 = true) : (cutT c p).2.1.length < p.length := by
  have := (cutT_eq c p).1
  rw [if_pos h] at this
  have := congrArg List.length this
  simp at this; omega
theorem splitT_len (c : Int) (p : T) : (splitT c p).length ≤ p.length + 1 := by
  induction p with
  | nil => simp [splitT]
  | cons b r ih =>
    simp only [splitT]
    split
    · simp; omega
    · simp only [List.length_cons, List.length_tail]; omega
theorem splitT_no {c : Int} {p : T} : ∀ x ∈ splitT c p, c ∉ x := by
  induction p with
  | nil => intro x hx; simp [splitT] at hx; subst hx; simp
  | cons b r ih =>
    intro x hx
    simp only [splitT] at hx
    split at hx
    · rcases List.mem_cons.mp hx with rfl | hx
      · simp
      · exact ih x hx
    · rename_i hb
      rcases hs : splitT c r with _ | ⟨y, ys⟩
      · exact absurd hs (splitT_ne c r)
      · rw [hs] at hx ih
        simp only [List.headD_cons, List.tail_cons] at hx
        rcases List.mem_cons.mp hx with rfl | hx
        · simp only [List.mem_cons, not_or]
          exact ⟨fun e => hb e.symm, ih y (by simp)⟩
        · exact ih x (by simp [hx])
/-- Put together again. -/
def unsplit (c : Int) : List T → T
  | [] => []
  | x :: xs => c :: (x ++ unsplit c xs)
theorem splitT_back (c : Int) (p : T) : ∀ {x : T} {xs : List T}, splitT c p = x :: xs → p = x ++ unsplit c xs := by
  induction p with
  | nil => intro x xs h; simp only [splitT, List.cons.injEq] at h; obtain ⟨rfl, rfl⟩ := h; rfl
  | cons b r ih =>
    intro x xs h
    simp only [splitT] at h
    rcases hs : splitT c r with _ | ⟨y, ys⟩
    · exact absurd hs (splitT_ne c r)
    · rw [hs] at h
      split at h
      · rename_i hb
        simp only [List.cons.injEq] at h
        obtain ⟨rfl, rfl⟩ := h
        rw [ih hs, hb]; rfl
      · simp only [List.headD_cons, List.tail_cons, List.cons.injEq] at h
        obtain ⟨rfl, rfl⟩ := h
        rw [ih hs]; rfl

end Go.Proofs.Ytmkncihmgbjgnaa.CutP
