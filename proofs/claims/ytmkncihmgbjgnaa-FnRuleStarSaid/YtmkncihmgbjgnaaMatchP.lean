/- When a way is of a pattern: a star being any bytes, or none. Functions of lists of bytes; no program in sight. Condition: none. -/
import Derived.Test.YtmkncihmgbjgnaaCutP
namespace Go.Proofs.Ytmkncihmgbjgnaa.MatchP
open Go Go.RowKit Go.Proofs.Ytmkncihmgbjgnaa.Lib Go.Proofs.Ytmkncihmgbjgnaa.CutP Go.Proofs.YtmkncihmgbjgnaaW.PrintWords
set_option linter.unusedVariables false
set_option linter.unusedSimpArgs false

/-- Of a text, or of one that it ends with. -/
def star (f : T → Bool) : T → Bool
  | [] => f []
  | x :: t => f (x :: t) || star f t
/-- Just of the pattern. -/
def mat : T → T → Bool
  | [] => fun s => s.isEmpty
  | c :: p => fun s => if c = 42 then star (mat p) s else (match s with
    | [] => false
    | x :: t => x == c && mat p t)

theorem star_iff {f : T → Bool} : ∀ {s : T}, star f s = true ↔ ∃ k, k ≤ s.length ∧ f (s.drop k) = true
  | [] => ⟨fun h => ⟨0, Nat.le_refl _, h⟩, fun ⟨k, hk, h⟩ => by
      obtain rfl : k = 0 := by simpa using hk
      exact h⟩
  | x :: t => by
    simp only [star, Bool.or_eq_true]
    constructor
    · rintro (h | h)
      · exact ⟨0, by omega, h⟩
      · obtain ⟨k, hk, h⟩ := star_iff.mp h
        exact ⟨k + 1, by simp; omega, h⟩
    · rintro ⟨k, hk, h⟩
      cases k with
      | zero => exact .inl h
      | succ k => exact .inr (star_iff.mpr ⟨k, by simpa using hk, h⟩)

theorem mat_nil {s : T} : mat [] s = true ↔ s = [] := by simp [mat]
theorem mat_star {p s : T} : mat (42 :: p) s = true ↔ ∃ k, k ≤ s.length ∧ mat p (s.drop k) = true := by
  simp only [mat]; rw [if_pos trivial]; exact star_iff
theorem mat_byte {c : Int} (hc : c ≠ 42) {p s : T} : mat (c :: p) s = true ↔ ∃ t, s = c :: t ∧ mat p t = true := by
  simp only [mat]; rw [if_neg hc]
  cases s with
  | nil => simp
  | cons x t =>
    simp only [Bool.and_eq_true, beq_iff_eq, List.cons.injEq]
    constructor
    · rintro ⟨rfl, h⟩; exact ⟨t, ⟨rfl, rfl⟩, h⟩
    · rintro ⟨t', ⟨rfl, rfl⟩, h⟩; exact ⟨rfl, h⟩

/-- One pattern behind another. -/
theorem mat_append {q : T} : ∀ {p s : T}, mat (p ++ q) s = true ↔ ∃ j, j ≤ s.length ∧ mat p (s.take j) = true ∧ mat q (s.drop j) = true
  | [], s => by
    constructor
    · intro h; exact ⟨0, by omega, by simp [mat], by simpa using h⟩
    · rintro ⟨j, hj, h1, h2⟩
      rw [mat_nil] at h1
      rcases List.take_eq_nil_iff.mp h1 with rfl | rfl
      · simpa using h2
      · simpa using h2
  | c :: p, s => by
    by_cases hc : c = 42
    · subst hc
      rw [List.cons_append, mat_star]
      constructor
      · rintro ⟨k, hk, h⟩
        obtain ⟨j, hj, h1, h2⟩ := mat_append.mp h
        rw [List.length_drop] at hj
        refine ⟨k + j, by omega, mat_star.mpr ⟨k, by rw [List.length_take]; omega, ?_⟩, by rw [← List.drop_drop]; exact h2⟩
        rw [List.drop_take, show k + j - k = j by omega]; exact h1
      · rintro ⟨j, hj, h1, h2⟩
        obtain ⟨k, hk, h1⟩ := mat_star.mp h1
        rw [List.length_take] at hk
        rw [List.drop_take] at h1
        refine ⟨k, by omega, mat_append.mpr ⟨j - k, by rw [List.length_drop]; omega, h1, ?_⟩⟩
        rw [List.drop_drop, show k + (j - k) = j by omega]; exact h2
    · rw [List.cons_append, mat_byte hc]
      constructor
      · rintro ⟨t, rfl, h⟩
        obtain ⟨j, hj, h1, h2⟩ := mat_append.mp h
        exact ⟨j + 1, by simp; omega, (mat_byte hc).mpr ⟨_, rfl, h1⟩, h2⟩
      · rintro ⟨j, hj, h1, h2⟩
        obtain ⟨t, ht, h1⟩ := (mat_byte hc).mp h1
        cases j with
        | zero => simp at ht
        | succ j =>
          cases s with
          | nil => simp at ht
          | cons x s =>
            simp only [List.take_succ_cons, List.cons.injEq] at ht
            obtain ⟨rfl, rfl⟩ := ht
            exact ⟨s, rfl, mat_append.mpr ⟨j, by simpa using hj, h1, h2⟩⟩

theorem mat_any (s : T) : mat [42] s = true := mat_star.mpr ⟨s.length, Nat.le_refl _, by simp [mat]⟩
/-- What goes on is of it. -/
theorem mat_open {p s : T} : mat (p ++ [42]) s = true ↔ ∃ j, j ≤ s.length ∧ mat p (s.take j) = true := by
  rw [mat_append]
  exact ⟨fun ⟨j, hj, h, _⟩ => ⟨j, hj, h⟩, fun ⟨j, hj, h⟩ => ⟨j, hj, h, mat_any _⟩⟩
theorem mat_snoc {c : Int} (hc : c ≠ 42) {p s : T} : mat (p ++ [c]) s = true ↔ ∃ t, s = t ++ [c] ∧ mat p t = true := by
  rw [mat_append]
  constructor
  · rintro ⟨j, hj, h1, h2⟩
    obtain ⟨t, ht, h2⟩ := (mat_byte hc).mp h2
    rw [mat_nil] at h2; subst h2
    exact ⟨s.take j, by rw [← ht, List.take_append_drop], h1⟩
  · rintro ⟨t, rfl, h⟩
    refine ⟨t.length, by simp, by simpa using h, ?_⟩
    rw [List.drop_left]
    exact (mat_byte hc).mpr ⟨[], rfl, by simp [mat]⟩

/-! step by step along the pattern -/
theorem step_zero_star {p s : T} : mat (p ++ [42]) (s.take 0) = mat p (s.take 0) := by
  rw [Bool.eq_iff_iff, mat_open]
  simp
theorem step_star {p s : T} {j : Nat} (hj : j < s.length) : mat (p ++ [42]) (s.take (j + 1)) = (mat p (s.take (j + 1)) || mat (p ++ [42]) (s.take j)) := by
  rw [Bool.eq_iff_iff, Bool.or_eq_true, mat_open, mat_open]
  simp only [List.length_take, List.take_take]
  constructor
  · rintro ⟨i, hi, h⟩
    rcases Nat.lt_or_ge i (j + 1) with hlt | hge
    · exact .inr ⟨i, by omega, by rwa [show min i j = i by omega, ← show min i (j + 1) = i by omega]⟩
    · exact .inl (by rwa [show min i (j + 1) = j + 1 by omega] at h)
  · rintro (h | ⟨i, hi, h⟩)
    · exact ⟨j + 1, by omega, by rwa [show min (j + 1) (j + 1) = j + 1 by omega]⟩
    · exact ⟨i, by omega, by rwa [show min i (j + 1) = i by omega, ← show min i j = i by omega]⟩
theorem step_zero_byte {c : Int} (hc : c ≠ 42) {p s : T} : mat (p ++ [c]) (s.take 0) = false := by
  rw [Bool.eq_false_iff]
  intro h
  obtain ⟨t, ht, _⟩ := (mat_snoc hc).mp h
  simp at ht
theorem step_byte {c : Int} (hc : c ≠ 42) {p s : T} {j : Nat} {x : Int} {r : T} (hx : s.drop j = x :: r) : mat (p ++ [c]) (s.take (j + 1)) = (mat p (s.take j) && x == c) := by
  have hl : j < s.length := by
    have := congrArg List.length hx
    simp at this; omega
  have hs : s.take (j + 1) = s.take j ++ [x] := by
    rw [List.take_succ_eq_append_getElem hl]
    rw [List.drop_eq_getElem_cons hl] at hx
    injection hx with hx _
    rw [hx]
  rw [Bool.eq_iff_iff, Bool.and_eq_true, beq_iff_eq, mat_snoc hc, hs]
  constructor
  · rintro ⟨t, ht, h⟩
    obtain ⟨h1, h2⟩ := List.append_inj' ht rfl
    simp only [List.cons.injEq, and_true] at h2
    exact ⟨by rw [h1]; exact h, h2⟩
  · rintro ⟨h, rfl⟩
    exact ⟨_, rfl, h⟩

/-! a pattern with its end, or without -/
def endsT (p : T) : Bool := decide (p.getLast? = some 36)
def bodyT (p : T) : T := if endsT p then p.dropLast else p
def has (p s : T) : Bool := if endsT p then mat (bodyT p) s else mat (bodyT p ++ [42]) s

/-- As it is told byte by byte. -/
def lpM : T → T → Bool
  | [] => fun _ => true
  | c :: p => fun s => if c = 36 ∧ p = [] then s.isEmpty else if c = 42 then star (lpM p) s else (match s with
    | [] => false
    | x :: t => x == c && lpM p t)
theorem lpM_body : ∀ {p : T}, (36 : Int) ∉ p → ∀ s, lpM p s = mat (p ++ [42]) s
  | [], _, s => by rw [List.nil_append, mat_any]; rfl
  | c :: p, h, s => by
    simp only [List.mem_cons, not_or] at h
    simp only [lpM, List.cons_append, mat]
    rw [if_neg (fun e => h.1 e.1.symm)]
    have e : lpM p = mat (p ++ [42]) := funext (lpM_body h.2)
    rw [e]
theorem lpM_end : ∀ {p : T}, (36 : Int) ∉ p → ∀ s, lpM (p ++ [36]) s = mat p s
  | [], _, s => by simp [lpM, mat]
  | c :: p, h, s => by
    simp only [List.mem_cons, not_or] at h
    simp only [lpM, List.cons_append, mat]
    rw [if_neg (fun e => h.1 e.1.symm)]
    have e : lpM (p ++ [36]) = mat p := funext (lpM_end h.2)
    rw [e]
theorem body_eq {p : T} (h : endsT p = true) : p = bodyT p ++ [36] := by
  unfold bodyT; rw [if_pos h]
  unfold endsT at h
  rw [decide_eq_true_eq] at h
  rcases List.eq_nil_or_concat p with rfl | ⟨r, c, rfl⟩
  · cases h
  · simp only [List.concat_eq_append, List.getLast?_append, List.getLast?_singleton, Option.some_or, Option.some.injEq] at h
    subst h; simp
theorem lpM_has {p : T} (h : (36 : Int) ∉ bodyT p) (s : T) : lpM p s = has p s := by
  unfold has
  cases he : endsT p with
  | true =>
    rw [if_pos rfl]
    have := lpM_end h s
    rwa [← body_eq he] at this
  | false =>
    rw [if_neg (by simp)]
    have e : bodyT p = p := by unfold bodyT; rw [he]; rfl
    rw [e] at h ⊢
    exact lpM_body h s

/-! parts between stars -/
def sjoin : List T → T
  | [] => []
  | x :: xs => 42 :: (x ++ sjoin xs)
theorem mat_pre {x : T} (hx : (42 : Int) ∉ x) {q s : T} : mat (x ++ q) s = true ↔ x <+: s ∧ mat q (s.drop x.length) = true := by
  induction x generalizing s with
  | nil => simp
  | cons c x ih =>
    simp only [List.mem_cons, not_or] at hx
    rw [List.cons_append, mat_byte (fun e => hx.1 e.symm)]
    constructor
    · rintro ⟨t, rfl, h⟩
      have := (ih hx.2).mp h
      exact ⟨(List.prefix_cons_inj c).mpr this.1, by simpa using this.2⟩
    · rintro ⟨h1, h2⟩
      cases s with
      | nil => simp at h1
      | cons y s =>
        obtain ⟨e, h3⟩ := List.cons_prefix_cons.mp h1
        subst e
        exact ⟨s, rfl, (ih hx.2).mpr ⟨h3, by simpa using h2⟩⟩
theorem mat_later {q s : T} {m : Nat} (h : mat (42 :: q) (s.drop m) = true) : mat (42 :: q) s = true := by
  obtain ⟨k, hk, h⟩ := mat_star.mp h
  rw [List.length_drop] at hk
  rw [List.drop_drop] at h
  by_cases hm : m + k ≤ s.length
  · exact mat_star.mpr ⟨m + k, hm, h⟩
  · rw [List.drop_of_length_le (by omega)] at h
    exact mat_star.mpr ⟨s.length, Nat.le_refl _, by simpa using h⟩
/-- The first place will do. -/
theorem mat_first {x q s : T} (hx : (42 : Int) ∉ x) {k : Nat} (hk : x <+: s.drop k) (hkl : k ≤ s.length) (hmin : ∀ j, j < k → ¬ x <+: s.drop j) : mat (42 :: (x ++ 42 :: q)) s = mat (42 :: q) (s.drop (k + x.length)) := by
  rw [Bool.eq_iff_iff, mat_star]
  constructor
  · rintro ⟨j, hj, h⟩
    obtain ⟨h1, h2⟩ := (mat_pre hx).mp h
    have hkj : k ≤ j := by
      rcases Nat.lt_or_ge j k with hlt | hge
      · exact absurd h1 (hmin j hlt)
      · exact hge
    rw [List.drop_drop] at h2
    apply mat_later (m := j - k)
    rw [List.drop_drop, show k + x.length + (j - k) = j + x.length by omega]
    exact h2
  · intro h
    refine ⟨k, hkl, (mat_pre hx).mpr ⟨hk, ?_⟩⟩
    rwa [List.drop_drop]
theorem mat_nowhere {x q s : T} (hx : (42 : Int) ∉ x) (hno : ∀ j, j ≤ s.length → ¬ x <+: s.drop j) : mat (42 :: (x ++ q)) s = false := by
  rw [Bool.eq_false_iff]
  intro h
  obtain ⟨k, hk, h⟩ := mat_star.mp h
  exact hno k hk ((mat_pre hx).mp h).1
theorem mat_last {x s : T} (hx : (42 : Int) ∉ x) : mat (42 :: x) s = true ↔ x.length ≤ s.length ∧ s.drop (s.length - x.length) = x := by
  rw [mat_star]
  have e : ∀ t : T, mat x t = true ↔ t = x := by
    intro t
    have := mat_pre hx (q := []) (s := t)
    rw [List.append_nil] at this
    rw [this, mat_nil]
    constructor
    · rintro ⟨⟨r, rfl⟩, h⟩
      rw [List.drop_left] at h; subst h; simp
    · rintro rfl; simp
  constructor
  · rintro ⟨k, hk, h⟩
    rw [e] at h
    have hl := congrArg List.length h
    rw [List.length_drop] at hl
    exact ⟨by omega, by rw [show s.length - x.length = k by omega]; exact h⟩
  · rintro ⟨h1, h2⟩
    exact ⟨s.length - x.length, by omega, (e _).mpr h2⟩

/-! laws -/
theorem has_more {p s : T} (he : endsT p = false) (h : has p s = true) (q : T) : has p (s ++ q) = true := by
  unfold has at h ⊢
  rw [he, if_neg (by simp)] at h ⊢
  obtain ⟨j, hj, h⟩ := mat_open.mp h
  exact mat_open.mpr ⟨j, by simp; omega, by rwa [List.take_append_of_le_length hj]⟩
theorem ends_snoc (p : T) (c : Int) : endsT (p ++ [c]) = decide (c = 36) := by
  unfold endsT; simp
theorem has_star {p s : T} (he : endsT p = false) : has (p ++ [42]) s = has p s := by
  unfold has bodyT
  rw [ends_snoc, he]
  simp only [show decide ((42 : Int) = 36) = false from rfl, Bool.false_eq_true, if_false]
  rw [Bool.eq_iff_iff, mat_open, mat_open]
  constructor
  · rintro ⟨j, hj, h⟩
    obtain ⟨i, hi, h⟩ := mat_open.mp h
    rw [List.length_take] at hi
    rw [List.take_take] at h
    exact ⟨min i j, by omega, h⟩
  · rintro ⟨j, hj, h⟩
    exact ⟨j, hj, mat_open.mpr ⟨j, by rw [List.length_take]; omega, by rwa [List.take_take, Nat.min_self]⟩⟩
theorem has_end {p s : T} (he : endsT p = false) (h : has (p ++ [36]) s = true) : has p s = true := by
  unfold has bodyT at h ⊢
  rw [ends_snoc] at h
  rw [he]
  simp only [decide_true, if_true, List.dropLast_concat, Bool.false_eq_true, if_false] at h ⊢
  exact mat_open.mpr ⟨s.length, Nat.le_refl _, by simpa using h⟩
theorem mat_self : ∀ (p : T), mat p p = true
  | [] => rfl
  | c :: p => by
    by_cases hc : c = 42
    · subst hc
      exact mat_star.mpr ⟨1, by simp, mat_self p⟩
    · exact (mat_byte hc).mpr ⟨p, rfl, mat_self p⟩
theorem mat_len {p : T} (h : (42 : Int) ∉ p) {s : T} (hm : mat p s = true) : s = p := by
  have := mat_pre h (q := []) (s := s)
  rw [List.append_nil] at this
  obtain ⟨⟨r, rfl⟩, hr⟩ := this.mp hm
  rw [List.drop_left, mat_nil] at hr
  subst hr; simp
/-- Each byte of a pattern, a star or not, stands for as many of its own. -/
theorem has_self {p : T} (he : endsT p = false) : has p p = true := by
  unfold has bodyT
  rw [he]
  simp only [Bool.false_eq_true, if_false]
  exact mat_open.mpr ⟨p.length, Nat.le_refl _, by simpa using mat_self p⟩

end Go.Proofs.Ytmkncihmgbjgnaa.MatchP
