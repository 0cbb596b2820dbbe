/- How a text is written with signs, as a function of its bytes; and what holds of that function. No program in sight. Condition: none. -/
import Derived.Test.YtmkncihmgbjgnaaLib
namespace Go.Proofs.Ytmkncihmgbjgnaa.EscP
open Go Go.RowKit Go.Proofs.Ytmkncihmgbjgnaa.Lib Go.Proofs.YtmkncihmgbjgnaaW.PrintWords
set_option linter.unusedVariables false
set_option linter.unusedSimpArgs false

def plainB (b : Int) : Bool := (decide (97 ≤ b) && decide (b ≤ 122)) || (decide (48 ≤ b) && decide (b ≤ 57)) || b == 46 || b == 45
/-- A figure of sixteen's worth. -/
def hexv (b : Int) : Option Int := if 48 ≤ b ∧ b ≤ 57 then some (b - 48) else if 65 ≤ b ∧ b ≤ 70 then some (b - 55) else if 97 ≤ b ∧ b ≤ 102 then some (b - 87) else none
/-- The figure of a worth. -/
def fig (d : Int) : Int := if d < 10 then 48 + d else 55 + d
def enc (n : Int) : List Int := if plainB n then [n] else [37, fig (n / 16), fig (n % 16)]
/-- One step: what is meant first, and what is left. -/
def head1 : List Int → Option (Int × List Int)
  | [] => none
  | b :: r => if b = 37 then (match r with
      | h :: l :: r' => (match hexv h, hexv l with
        | some a, some c => some (a * 16 + c, r')
        | _, _ => none)
      | _ => none) else some (b, r)
theorem head1_lt {p r : List Int} {n : Int} (h : head1 p = some (n, r)) : r.length < p.length := by
  unfold head1 at h
  repeat' split at h
  all_goals first | cases h; done | (simp only [Option.some.injEq, Prod.mk.injEq] at h; obtain ⟨_, rfl⟩ := h; simp; try omega)
/-- The bytes that are meant. -/
def dec (p : List Int) : Option (List Int) :=
  match h : head1 p with
  | none => if p = [] then some [] else none
  | some (n, r) => (dec r).map (n :: ·)
termination_by p.length
decreasing_by exact head1_lt h
theorem dec_nil : dec [] = some [] := by rw [dec]; rfl
theorem dec_none {p : List Int} (h : head1 p = none) (hp : p ≠ []) : dec p = none := by
  rw [dec]; split
  · rw [if_neg hp]
  · rename_i h'; rw [h] at h'; cases h'
theorem dec_some {p r : List Int} {n : Int} (h : head1 p = some (n, r)) : dec p = (dec r).map (n :: ·) := by
  rw [dec]; split
  · rename_i h'; rw [h] at h'; cases h'
  · rename_i h'; rw [h] at h'; cases h'; rfl
def encs (l : List Int) : List Int := l.flatMap enc
/-- How a text is written. -/
def esc (p : List Int) : Option (List Int) := (dec p).map encs
def escN (p : List Int) : Option (List Int) := if p.length ≤ 60 then esc p else none

theorem esc_nil : esc [] = some [] := by unfold esc; rw [dec_nil]; rfl
theorem esc_none {p : List Int} (h : head1 p = none) (hp : p ≠ []) : esc p = none := by unfold esc; rw [dec_none h hp]; rfl
theorem esc_some {p r : List Int} {n : Int} (h : head1 p = some (n, r)) : esc p = (esc r).map (enc n ++ ·) := by
  unfold esc; rw [dec_some h]
  cases dec r with
  | none => rfl
  | some t => simp [encs]

theorem hexv_bd {b a : Int} (h : hexv b = some a) : 0 ≤ a ∧ a ≤ 15 := by
  unfold hexv at h
  repeat' split at h
  all_goals first | (cases h; omega) | cases h
theorem hexv_fig {d : Int} (h0 : 0 ≤ d) (h1 : d ≤ 15) : hexv (fig d) = some d := by
  unfold hexv fig
  repeat' split
  all_goals first | (exfalso; omega) | (congr 1; omega)
theorem fig_bd {d : Int} (h0 : 0 ≤ d) (h1 : d ≤ 15) : (48 ≤ fig d ∧ fig d ≤ 57) ∨ (65 ≤ fig d ∧ fig d ≤ 70) := by
  unfold fig; split <;> omega
theorem plain_ne {n : Int} (h : plainB n = true) : n ≠ 37 := by
  rintro rfl; simp [plainB] at h

/-- What a written byte begins with is read back. -/
theorem head1_enc {n : Int} (h0 : 0 ≤ n) (h1 : n ≤ 255) (r : List Int) : head1 (enc n ++ r) = some (n, r) := by
  unfold enc
  split
  · rename_i hp
    simp only [List.cons_append, List.nil_append, head1]
    rw [if_neg (plain_ne hp)]
  · simp only [List.cons_append, List.nil_append, head1]
    rw [if_pos trivial, hexv_fig (by omega) (by omega), hexv_fig (by omega) (by omega)]
    simp only [Option.some.injEq, Prod.mk.injEq, and_true]
    omega

theorem head1_bd {p r : List Int} {n : Int} (hb : ∀ x ∈ p, 0 ≤ x ∧ x ≤ 255) (h : head1 p = some (n, r)) : (0 ≤ n ∧ n ≤ 255) ∧ ∀ x ∈ r, 0 ≤ x ∧ x ≤ 255 := by
  cases p with
  | nil => cases h
  | cons b t =>
    unfold head1 at h
    simp only at h
    split at h
    · cases t with
      | nil => cases h
      | cons x t =>
        cases t with
        | nil => cases h
        | cons y t =>
          simp only at h
          split at h
          · rename_i a c ha hc
            cases h
            have := hexv_bd ha
            have := hexv_bd hc
            exact ⟨by omega, fun z hz => hb z (by simp [hz])⟩
          · cases h
    · cases h
      exact ⟨hb _ (by simp), fun z hz => hb z (by simp [hz])⟩

theorem dec_bd : ∀ (m : Nat) {p t : List Int}, p.length ≤ m → (∀ x ∈ p, 0 ≤ x ∧ x ≤ 255) → dec p = some t → (∀ x ∈ t, 0 ≤ x ∧ x ≤ 255) ∧ t.length ≤ p.length := by
  intro m
  induction m with
  | zero =>
    intro p t hm hb h
    obtain rfl : p = [] := List.eq_nil_of_length_eq_zero (by omega)
    rw [dec_nil] at h; cases h; simp
  | succ m ih =>
    intro p t hm hb h
    cases hh : head1 p with
    | none =>
      by_cases hp : p = []
      · subst hp; rw [dec_nil] at h; cases h; simp
      · rw [dec_none hh hp] at h; cases h
    | some z =>
      obtain ⟨n, r⟩ := z
      have hl := head1_lt hh
      have hbd := head1_bd hb hh
      rw [dec_some hh] at h
      cases hr : dec r with
      | none => rw [hr] at h; cases h
      | some u =>
        rw [hr] at h; cases h
        have := ih (by omega) hbd.2 hr
        refine ⟨?_, by simp; omega⟩
        intro x hx
        rcases List.mem_cons.mp hx with rfl | hx
        · exact hbd.1
        · exact this.1 x hx

theorem dec_encs : ∀ {t : List Int}, (∀ x ∈ t, 0 ≤ x ∧ x ≤ 255) → dec (encs t) = some t
  | [], _ => dec_nil
  | n :: t, h => by
    have e : encs (n :: t) = enc n ++ encs t := by simp [encs]
    have hn := h n (by simp)
    rw [e, dec_some (head1_enc hn.1 hn.2 _), dec_encs (fun x hx => h x (by simp [hx]))]
    rfl

/-- What is written in one way is written so again. -/
theorem esc_esc {p t : List Int} (hb : ∀ x ∈ p, 0 ≤ x ∧ x ≤ 255) (h : esc p = some t) : esc t = some t := by
  unfold esc at h ⊢
  cases hd : dec p with
  | none => rw [hd] at h; cases h
  | some u =>
    rw [hd] at h; cases h
    rw [dec_encs (dec_bd _ (Nat.le_refl _) hb hd).1]; rfl

theorem enc_len (n : Int) : 1 ≤ (enc n).length ∧ (enc n).length ≤ 3 := by unfold enc; split <;> simp
theorem encs_len (t : List Int) : t.length ≤ (encs t).length ∧ (encs t).length ≤ 3 * t.length := by
  induction t with
  | nil => simp [encs]
  | cons n t ih =>
    have := enc_len n
    simp only [encs, List.flatMap_cons, List.length_append, List.length_cons] at ih ⊢
    omega

theorem enc_bd {n : Int} (h0 : 0 ≤ n) (h1 : n ≤ 255) : ∀ x ∈ enc n, 0 ≤ x ∧ x ≤ 255 := by
  unfold enc
  intro x hx
  split at hx
  · simp only [List.mem_singleton] at hx; omega
  · simp only [List.mem_cons, List.not_mem_nil, or_false] at hx
    have a := fig_bd (d := n / 16) (by omega) (by omega)
    have b := fig_bd (d := n % 16) (by omega) (by omega)
    omega
theorem encs_bd {t : List Int} (h : ∀ x ∈ t, 0 ≤ x ∧ x ≤ 255) : ∀ x ∈ encs t, 0 ≤ x ∧ x ≤ 255 := by
  intro x hx
  simp only [encs, List.mem_flatMap] at hx
  obtain ⟨n, hn, hx⟩ := hx
  exact enc_bd (h n hn).1 (h n hn).2 x hx

/-! two texts, one behind the other -/
theorem head1_append {p r : List Int} {n : Int} (h : head1 p = some (n, r)) (q : List Int) : head1 (p ++ q) = some (n, r ++ q) := by
  cases p with
  | nil => cases h
  | cons b t =>
    unfold head1 at h
    simp only at h
    split at h
    · rename_i hb
      cases t with
      | nil => cases h
      | cons x t =>
        cases t with
        | nil => cases h
        | cons y t =>
          simp only at h
          split at h
          · rename_i a c ha hc
            cases h
            simp [head1, hb, ha, hc]
          · cases h
    · rename_i hb
      cases h
      simp [head1, hb]

theorem dec_append (q : List Int) : ∀ (m : Nat) {p t : List Int}, p.length ≤ m → dec p = some t → dec (p ++ q) = (dec q).map (t ++ ·) := by
  intro m
  induction m with
  | zero =>
    intro p t hm h
    obtain rfl : p = [] := List.eq_nil_of_length_eq_zero (by omega)
    rw [dec_nil] at h; cases h; simp
  | succ m ih =>
    intro p t hm h
    cases hh : head1 p with
    | none =>
      by_cases hp : p = []
      · subst hp; rw [dec_nil] at h; cases h; simp
      · rw [dec_none hh hp] at h; cases h
    | some z =>
      obtain ⟨n, r⟩ := z
      have hl := head1_lt hh
      rw [dec_some hh] at h
      cases hr : dec r with
      | none => rw [hr] at h; cases h
      | some u =>
        rw [hr] at h; cases h
        rw [dec_some (head1_append hh q), ih (by omega) hr]
        cases dec q <;> simp

theorem esc_append {p q t : List Int} (h : esc p = some t) : esc (p ++ q) = (esc q).map (t ++ ·) := by
  unfold esc at h ⊢
  cases hd : dec p with
  | none => rw [hd] at h; cases h
  | some u =>
    rw [hd] at h; cases h
    rw [dec_append q _ (Nat.le_refl _) hd]
    cases dec q <;> simp [encs]

end Go.Proofs.Ytmkncihmgbjgnaa.EscP
