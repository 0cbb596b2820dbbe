/- Lists of bytes with no program in sight: escapes, cuts, parts of a way, patterns, addresses. Condition: none. -/
import Derived.Test.YtheakfegchndcaaLib
namespace Go.Proofs.Ytheakfegchndcaa.EscP
open Go Go.RowKit Go.Proofs.Ytheakfegchndcaa.Lib Go.Proofs.YtheakfegchndcaaW.PrintWords
set_option linter.unusedVariables false
set_option linter.unusedSimpArgs false

def plainB (b : Int) : Bool := (decide (97 ≤ b) && decide (b ≤ 122)) || (decide (48 ≤ b) && decide (b ≤ 57)) || b == 46 || b == 45
/-- A figure of sixteen's worth. -/
def hexv (b : Int) : Option Int := if 48 ≤ b ∧ b ≤ 57 then some (b - 48) else if 65 ≤ b ∧ b ≤ 70 then some (b - 55) else if 97 ≤ b ∧ b ≤ 102 then some (b - 87) else none
/-- The figure of a worth. -/
def fig (d : Int) : Int := if d < 10 then 48 + d else 55 + d
def enc (n : Int) : List Int := if plainB n then [n] else [37, fig (n / 16), fig (n % 16)]
/-- One step: what is meant first, and what is left. -/
def head1 : List Int → Option (Int × List Int)
  | [] => none
  | b :: r => if b = 37 then (match r with
      | h :: l :: r' => (match hexv h, hexv l with
        | some a, some c => some (a * 16 + c, r')
        | _, _ => none)
      | _ => none) else some (b, r)
theorem head1_lt {p r : List Int} {n : Int} (h : head1 p = some (n, r)) : r.length < p.length := by
  unfold head1 at h
  repeat' split at h
  all_goals first | cases h; done | (simp only [Option.some.injEq, Prod.mk.injEq] at h; obtain ⟨_, rfl⟩ := h; simp; try omega)
/-- The bytes that are meant. -/
def dec (p : List Int) : Option (List Int) :=
  match h : head1 p with
  | none => if p = [] then some [] else none
  | some (n, r) => (dec r).map (n :: ·)
termination_by p.length
decreasing_by exact head1_lt h
theorem dec_nil : dec [] = some [] := by rw [dec]; rfl
theorem dec_none {p : List Int} (h : head1 p = none) (hp : p ≠ []) : dec p = none := by
  rw [dec]; split
  · rw [if_neg hp]
  · rename_i h'; rw [h] at h'; cases h'
theorem dec_some {p r : List Int} {n : Int} (h : head1 p = some (n, r)) : dec p = (dec r).map (n :: ·) := by
  rw [dec]; split
  · rename_i h'; rw [h] at h'; cases h'
  · rename_i h'; rw [h] at h'; cases h'; rfl
def encs (l : List Int) : List Int := l.flatMap enc
/-- How a text is written. -/
def esc (p : List Int) : Option (List Int) := (dec p).map encs
def escN (p : List Int) : Option (List Int) := if p.length ≤ 60 then esc p else none

theorem esc_nil : esc [] = some [] := by unfold esc; rw [dec_nil]; rfl
theorem esc_none {p : List Int} (h : head1 p = none) (hp : p ≠ []) : esc p = none := by unfold esc; rw [dec_none h hp]; rfl
theorem esc_some {p r : List Int} {n : Int} (h : head1 p = some (n, r)) : esc p = (esc r).map (enc n ++ ·) := by
  unfold esc; rw [dec_some h]
  cases dec r with
  | none => rfl
  | some t => simp [encs]

theorem hexv_bd {b a : Int} (h : hexv b = some a) : 0 ≤ a ∧ a ≤ 15 := by
  unfold hexv at h
  repeat' split at h
  all_goals first | (cases h; omega) | cases h
theorem hexv_fig {d : Int} (h0 : 0 ≤ d) (h1 : d ≤ 15) : hexv (fig d) = some d := by
  unfold hexv fig
  repeat' split
  all_goals first | (exfalso; omega) | (congr 1; omega)
theorem fig_bd {d : Int} (h0 : 0 ≤ d) (h1 : d ≤ 15) : (48 ≤ fig d ∧ fig d ≤ 57) ∨ (65 ≤ fig d ∧ fig d ≤ 70) := by
  unfold fig; split <;> omega
theorem plain_ne {n : Int} (h : plainB n = true) : n ≠ 37 := by
  rintro rfl; simp [plainB] at h

/-- What a written byte begins with is read back. -/
theorem head1_enc {n : Int} (h0 : 0 ≤ n) (h1 : n ≤ 255) (r : List Int) : head1 (enc n ++ r) = some (n, r) := by
  unfold enc
  split
  · rename_i hp
    simp only [List.cons_append, List.nil_append, head1]
    rw [if_neg (plain_ne hp)]
  · simp only [List.cons_append, List.nil_append, head1]
    rw [if_pos trivial, hexv_fig (by omega) (by omega), hexv_fig (by omega) (by omega)]
    simp only [Option.some.injEq, Prod.mk.injEq, and_true]
    omega

theorem head1_bd {p r : List Int} {n : Int} (hb : ∀ x ∈ p, 0 ≤ x ∧ x ≤ 255) (h : head1 p = some (n, r)) : (0 ≤ n ∧ n ≤ 255) ∧ ∀ x ∈ r, 0 ≤ x ∧ x ≤ 255 := by
  cases p with
  | nil => cases h
  | cons b t =>
    unfold head1 at h
    simp only at h
    split at h
    · cases t with
      | nil => cases h
      | cons x t =>
        cases t with
        | nil => cases h
        | cons y t =>
          simp only at h
          split at h
          · rename_i a c ha hc
            cases h
            have := hexv_bd ha
            have := hexv_bd hc
            exact ⟨by omega, fun z hz => hb z (by simp [hz])⟩
          · cases h
    · cases h
      exact ⟨hb _ (by simp), fun z hz => hb z (by simp [hz])⟩

theorem dec_bd : ∀ (m : Nat) {p t : List Int}, p.length ≤ m → (∀ x ∈ p, 0 ≤ x ∧ x ≤ 255) → dec p = some t → (∀ x ∈ t, 0 ≤ x ∧ x ≤ 255) ∧ t.length ≤ p.length := by
  intro m
  induction m with
  | zero =>
    intro p t hm hb h
    obtain rfl : p = [] := List.eq_nil_of_length_eq_zero (by omega)
    rw [dec_nil] at h; cases h; simp
  | succ m ih =>
    intro p t hm hb h
    cases hh : head1 p with
    | none =>
      by_cases hp : p = []
      · subst hp; rw [dec_nil] at h; cases h; simp
      · rw [dec_none hh hp] at h; cases h
    | some z =>
      obtain ⟨n, r⟩ := z
      have hl := head1_lt hh
      have hbd := head1_bd hb hh
      rw [dec_some hh] at h
      cases hr : dec r with
      | none => rw [hr] at h; cases h
      | some u =>
        rw [hr] at h; cases h
        have := ih (by omega) hbd.2 hr
        refine ⟨?_, by simp; omega⟩
        intro x hx
        rcases List.mem_cons.mp hx with rfl | hx
        · exact hbd.1
        · exact this.1 x hx

theorem dec_encs : ∀ {t : List Int}, (∀ x ∈ t, 0 ≤ x ∧ x ≤ 255) → dec (encs t) = some t
  | [], _ => dec_nil
  | n :: t, h => by
    have e : encs (n :: t) = enc n ++ encs t := by simp [encs]
    have hn := h n (by simp)
    rw [e, dec_some (head1_enc hn.1 hn.2 _), dec_encs (fun x hx => h x (by simp [hx]))]
    rfl

/-- What is written in one way is written so again. -/
theorem esc_esc {p t : List Int} (hb : ∀ x ∈ p, 0 ≤ x ∧ x ≤ 255) (h : esc p = some t) : esc t = some t := by
  unfold esc at h ⊢
  cases hd : dec p with
  | none => rw [hd] at h; cases h
  | some u =>
    rw [hd] at h; cases h
    rw [dec_encs (dec_bd _ (Nat.le_refl _) hb hd).1]; rfl

theorem enc_len (n : Int) : 1 ≤ (enc n).length ∧ (enc n).length ≤ 3 := by unfold enc; split <;> simp
theorem encs_len (t : List Int) : t.length ≤ (encs t).length ∧ (encs t).length ≤ 3 * t.length := by
  induction t with
  | nil => simp [encs]
  | cons n t ih =>
    have := enc_len n
    simp only [encs, List.flatMap_cons, List.length_append, List.length_cons] at ih ⊢
    omega

theorem enc_bd {n : Int} (h0 : 0 ≤ n) (h1 : n ≤ 255) : ∀ x ∈ enc n, 0 ≤ x ∧ x ≤ 255 := by
  unfold enc
  intro x hx
  split at hx
  · simp only [List.mem_singleton] at hx; omega
  · simp only [List.mem_cons, List.not_mem_nil, or_false] at hx
    have a := fig_bd (d := n / 16) (by omega) (by omega)
    have b := fig_bd (d := n % 16) (by omega) (by omega)
    omega
theorem encs_bd {t : List Int} (h : ∀ x ∈ t, 0 ≤ x ∧ x ≤ 255) : ∀ x ∈ encs t, 0 ≤ x ∧ x ≤ 255 := by
  intro x hx
  simp only [encs, List.mem_flatMap] at hx
  obtain ⟨n, hn, hx⟩ := hx
  exact enc_bd (h n hn).1 (h n hn).2 x hx

/-! two texts, one behind the other -/
theorem head1_append {p r : List Int} {n : Int} (h : head1 p = some (n, r)) (q : List Int) : head1 (p ++ q) = some (n, r ++ q) := by
  cases p with
  | nil => cases h
  | cons b t =>
    unfold head1 at h
    simp only at h
    split at h
    · rename_i hb
      cases t with
      | nil => cases h
      | cons x t =>
        cases t with
        | nil => cases h
        | cons y t =>
          simp only at h
          split at h
          · rename_i a c ha hc
            cases h
            simp [head1, hb, ha, hc]
          · cases h
    · rename_i hb
      cases h
      simp [head1, hb]

theorem dec_append (q : List Int) : ∀ (m : Nat) {p t : List Int}, p.length ≤ m → dec p = some t → dec (p ++ q) = (dec q).map (t ++ ·) := by
  intro m
  induction m with
  | zero =>
    intro p t hm h
    obtain rfl : p = [] := List.eq_nil_of_length_eq_zero (by omega)
    rw [dec_nil] at h; cases h; simp
  | succ m ih =>
    intro p t hm h
    cases hh : head1 p with
    | none =>
      by_cases hp : p = []
      · subst hp; rw [dec_nil] at h; cases h; simp
      · rw [dec_none hh hp] at h; cases h
    | some z =>
      obtain ⟨n, r⟩ := z
      have hl := head1_lt hh
      rw [dec_some hh] at h
      cases hr : dec r with
      | none => rw [hr] at h; cases h
      | some u =>
        rw [hr] at h; cases h
        rw [dec_some (head1_append hh q), ih (by omega) hr]
        cases dec q <;> simp

theorem esc_append {p q t : List Int} (h : esc p = some t) : esc (p ++ q) = (esc q).map (t ++ ·) := by
  unfold esc at h ⊢
  cases hd : dec p with
  | none => rw [hd] at h; cases h
  | some u =>
    rw [hd] at h; cases h
    rw [dec_append q _ (Nat.le_refl _) hd]
    cases dec q <;> simp [encs]

end Go.Proofs.Ytheakfegchndcaa.EscP

namespace Go.Proofs.Ytheakfegchndcaa.CutP
open Go Go.RowKit Go.Proofs.Ytheakfegchndcaa.Lib Go.Proofs.YtheakfegchndcaaW.PrintWords
set_option linter.unusedVariables false
set_option linter.unusedSimpArgs false

abbrev T := List Int
def Rng (s : T) : Prop := ∀ x ∈ s, 0 ≤ x ∧ x ≤ 255
/-- Cut at the first byte of a kind. -/
def cutT (c : Int) : T → T × T × Bool
  | [] => ([], [], false)
  | b :: r => if b = c then ([], r, true) else (b :: (cutT c r).1, (cutT c r).2.1, (cutT c r).2.2)
/-- Cut at each byte of a kind. -/
def splitT (c : Int) : T → List T
  | [] => [[]]
  | b :: r => if b = c then [] :: splitT c r else (b :: (splitT c r).headD []) :: (splitT c r).tail
/-! cuts -/
theorem cutT_none {c : Int} {p : T} (h : c ∉ p) : cutT c p = (p, [], false) := by
  induction p with
  | nil => rfl
  | cons b r ih =>
    simp only [List.mem_cons, not_or] at h
    simp only [cutT]
    rw [if_neg (fun e => h.1 e.symm), ih h.2]
theorem cutT_at {c : Int} {p : T} (h : c ∉ p) (q : T) : cutT c (p ++ c :: q) = (p, q, true) := by
  induction p with
  | nil => simp [cutT]
  | cons b r ih =>
    simp only [List.mem_cons, not_or] at h
    simp only [List.cons_append, cutT]
    rw [if_neg (fun e => h.1 e.symm), ih h.2]
theorem cutT_fst {c : Int} (p : T) : c ∉ (cutT c p).1 := by
  induction p with
  | nil => simp [cutT]
  | cons b r ih =>
    simp only [cutT]
    split
    · simp
    · rename_i h
      simp only [List.mem_cons, not_or]
      exact ⟨fun e => h e.symm, ih⟩
/-- A text is what is ahead of the cut, and, if there is one, what is behind it. -/
theorem cutT_eq (c : Int) (p : T) : p = (cutT c p).1 ++ (if (cutT c p).2.2 then c :: (cutT c p).2.1 else []) ∧ ((cutT c p).2.2 = false → (cutT c p).2.1 = []) := by
  induction p with
  | nil => simp [cutT]
  | cons b r ih =>
    simp only [cutT]
    split
    · rename_i h; simp [h]
    · refine ⟨?_, ih.2⟩
      simp only [List.cons_append]
      rw [← ih.1]
theorem cutT_append {c : Int} (p q : T) : (cutT c (p ++ c :: q)).1 = (cutT c p).1 := by
  induction p with
  | nil => simp [cutT]
  | cons b r ih =>
    simp only [List.cons_append, cutT]
    split
    · rfl
    · simp [ih]

theorem splitT_ne (c : Int) (p : T) : splitT c p ≠ [] := by
  cases p with
  | nil => simp [splitT]
  | cons b r => simp only [splitT]; split <;> simp
theorem splitT_none {c : Int} {p : T} (h : c ∉ p) : splitT c p = [p] := by
  induction p with
  | nil => rfl
  | cons b r ih =>
    simp only [List.mem_cons, not_or] at h
    simp only [splitT]
    rw [if_neg (fun e => h.1 e.symm), ih h.2]; rfl
theorem splitT_at {c : Int} {p : T} (h : c ∉ p) (q : T) : splitT c (p ++ c :: q) = p :: splitT c q := by
  induction p with
  | nil => simp [splitT]
  | cons b r ih =>
    simp only [List.mem_cons, not_or] at h
    simp only [List.cons_append, splitT]
    rw [if_neg (fun e => h.1 e.symm), ih h.2]; rfl
theorem splitT_append (c : Int) (p q : T) : splitT c (p ++ c :: q) = splitT c p ++ splitT c q := by
  induction p with
  | nil => simp [splitT]
  | cons b r ih =>
    simp only [List.cons_append, splitT]
    split
    · rw [ih]; rfl
    · rw [ih]
      rcases hs : splitT c r with _ | ⟨x, xs⟩
      · exact absurd hs (splitT_ne c r)
      · rfl
theorem splitT_rng {c : Int} {p : T} (h : Rng p) : ∀ x ∈ splitT c p, Rng x := by
  induction p with
  | nil => intro x hx; simp [splitT] at hx; subst hx; intro y hy; cases hy
  | cons b r ih =>
    have hb := h b (by simp)
    have ih := ih (fun x hx => h x (by simp [hx]))
    intro x hx
    simp only [splitT] at hx
    split at hx
    · rcases List.mem_cons.mp hx with rfl | hx
      · intro y hy; cases hy
      · exact ih x hx
    · rcases hs : splitT c r with _ | ⟨y, ys⟩
      · exact absurd hs (splitT_ne c r)
      · rw [hs] at hx ih
        simp only [List.headD_cons, List.tail_cons] at hx
        rcases List.mem_cons.mp hx with rfl | hx
        · intro z hz
          rcases List.mem_cons.mp hz with rfl | hz
          · exact hb
          · exact ih y (by simp) z hz
        · exact ih x (by simp [hx])

theorem splitT_cut (c : Int) (p : T) : splitT c p = if (cutT c p).2.2 then (cutT c p).1 :: splitT c (cutT c p).2.1 else [(cutT c p).1] := by
  induction p with
  | nil => rfl
  | cons b r ih =>
    simp only [splitT, cutT]
    split
    · rfl
    · rw [ih]
      split <;> rfl
theorem cutT_lt {c : Int} {p : T} (h : (cutT c p).2.2 = true) : (cutT c p).2.1.length < p.length := by
  have := (cutT_eq c p).1
  rw [if_pos h] at this
  have := congrArg List.length this
  simp at this; omega
theorem splitT_len (c : Int) (p : T) : (splitT c p).length ≤ p.length + 1 := by
  induction p with
  | nil => simp [splitT]
  | cons b r ih =>
    simp only [splitT]
    split
    · simp; omega
    · simp only [List.length_cons, List.length_tail]; omega
theorem splitT_no {c : Int} {p : T} : ∀ x ∈ splitT c p, c ∉ x := by
  induction p with
  | nil => intro x hx; simp [splitT] at hx; subst hx; simp
  | cons b r ih =>
    intro x hx
    simp only [splitT] at hx
    split at hx
    · rcases List.mem_cons.mp hx with rfl | hx
      · simp
      · exact ih x hx
    · rename_i hb
      rcases hs : splitT c r with _ | ⟨y, ys⟩
      · exact absurd hs (splitT_ne c r)
      · rw [hs] at hx ih
        simp only [List.headD_cons, List.tail_cons] at hx
        rcases List.mem_cons.mp hx with rfl | hx
        · simp only [List.mem_cons, not_or]
          exact ⟨fun e => hb e.symm, ih y (by simp)⟩
        · exact ih x (by simp [hx])
/-- Put together again. -/
def unsplit (c : Int) : List T → T
  | [] => []
  | x :: xs => c :: (x ++ unsplit c xs)
theorem splitT_back (c : Int) (p : T) : ∀ {x : T} {xs : List T}, splitT c p = x :: xs → p = x ++ unsplit c xs := by
  induction p with
  | nil => intro x xs h; simp only [splitT, List.cons.injEq] at h; obtain ⟨rfl, rfl⟩ := h; rfl
  | cons b r ih =>
    intro x xs h
    simp only [splitT] at h
    rcases hs : splitT c r with _ | ⟨y, ys⟩
    · exact absurd hs (splitT_ne c r)
    · rw [hs] at h
      split at h
      · rename_i hb
        simp only [List.cons.injEq] at h
        obtain ⟨rfl, rfl⟩ := h
        rw [ih hs, hb]; rfl
      · simp only [List.headD_cons, List.tail_cons, List.cons.injEq] at h
        obtain ⟨rfl, rfl⟩ := h
        rw [ih hs]; rfl

end Go.Proofs.Ytheakfegchndcaa.CutP

namespace Go.Proofs.Ytheakfegchndcaa.PathP
open Go Go.RowKit Go.Proofs.Ytheakfegchndcaa.Lib Go.Proofs.YtheakfegchndcaaW.PrintWords
set_option linter.unusedVariables false
set_option linter.unusedSimpArgs false

/-- Nothing is said by a part. -/
def Idle (p : ByteArray) : Prop := L p = [] ∨ L p = [46]
def Up (p : ByteArray) : Prop := L p = [46, 46]
instance (p : ByteArray) : Decidable (Idle p) := inferInstanceAs (Decidable (_ ∨ _))
instance (p : ByteArray) : Decidable (Up p) := inferInstanceAs (Decidable (_ = _))
def stepP (out : List ByteArray) (p : ByteArray) : List ByteArray := if Idle p then out else if Up p then out.dropLast else out ++ [p]
def clean (l : List ByteArray) : List ByteArray := l.foldl stepP []
def Way (p : ByteArray) : Prop := ¬ Idle p ∧ ¬ Up p

theorem stepP_way {out : List ByteArray} {p : ByteArray} (h : Way p) : stepP out p = out ++ [p] := by
  unfold stepP; rw [if_neg h.1, if_neg h.2]
theorem stepP_idle {out : List ByteArray} {p : ByteArray} (h : Idle p) : stepP out p = out := by
  unfold stepP; rw [if_pos h]
theorem up_not_idle {p : ByteArray} (h : Up p) : ¬ Idle p := by
  unfold Up at h; unfold Idle; rw [h]; simp
theorem stepP_up {out : List ByteArray} {p : ByteArray} (h : Up p) : stepP out p = out.dropLast := by
  unfold stepP; rw [if_neg (up_not_idle h), if_pos h]

theorem fold_ways {l : List ByteArray} : ∀ {out : List ByteArray}, (∀ p ∈ l, Way p) → l.foldl stepP out = out ++ l := by
  induction l with
  | nil => intro out _; simp
  | cons p l ih =>
    intro out h
    rw [List.foldl_cons, stepP_way (h p (by simp)), ih (fun q hq => h q (by simp [hq]))]
    simp
theorem fold_all {P : ByteArray → Prop} {l : List ByteArray} : ∀ {out : List ByteArray}, (∀ p ∈ out, P p) → (∀ p ∈ l, Way p → P p) → ∀ p ∈ l.foldl stepP out, P p := by
  induction l with
  | nil => intro out h _; exact h
  | cons q l ih =>
    intro out h hl
    rw [List.foldl_cons]
    refine ih ?_ (fun p hp => hl p (by simp [hp]))
    intro p hp
    unfold stepP at hp
    split at hp
    · exact h p hp
    · split at hp
      · exact h p (List.dropLast_subset _ hp)
      · rcases List.mem_append.mp hp with hp | hp
        · exact h p hp
        · rw [List.mem_singleton] at hp; subst hp
          exact hl p (by simp) ⟨by assumption, by assumption⟩
theorem clean_ways (l : List ByteArray) : ∀ p ∈ clean l, Way p := fold_all (by simp) (fun _ _ h => h)
theorem clean_sub (l : List ByteArray) : ∀ p ∈ clean l, p ∈ l := fold_all (by simp) (fun _ h _ => h)
theorem clean_of_ways {l : List ByteArray} (h : ∀ p ∈ l, Way p) : clean l = l := by unfold clean; rw [fold_ways h]; simp
theorem clean_clean (l : List ByteArray) : clean (clean l) = clean l := clean_of_ways (clean_ways l)
theorem clean_append (a b : List ByteArray) : clean (a ++ b) = b.foldl stepP (clean a) := by unfold clean; rw [List.foldl_append]
/-- Cut anywhere. -/
theorem clean_cut (a b : List ByteArray) : clean (clean a ++ b) = clean (a ++ b) := by rw [clean_append, clean_append, clean_clean]
theorem fold_len {l : List ByteArray} : ∀ {out : List ByteArray}, (l.foldl stepP out).length ≤ out.length + l.length := by
  induction l with
  | nil => intro out; simp
  | cons p l ih =>
    intro out
    rw [List.foldl_cons]
    have := ih (out := stepP out p)
    have h2 : (stepP out p).length ≤ out.length + 1 := by
      unfold stepP
      split
      · omega
      · split
        · rw [List.length_dropLast]; omega
        · simp
    simp only [List.length_cons]; omega
theorem clean_len (l : List ByteArray) : (clean l).length ≤ l.length := by
  have := fold_len (l := l) (out := [])
  simpa [clean] using this

end Go.Proofs.Ytheakfegchndcaa.PathP

namespace Go.Proofs.Ytheakfegchndcaa.MatchP
open Go Go.RowKit Go.Proofs.Ytheakfegchndcaa.Lib Go.Proofs.Ytheakfegchndcaa.CutP Go.Proofs.YtheakfegchndcaaW.PrintWords
set_option linter.unusedVariables false
set_option linter.unusedSimpArgs false

/-- Of a text, or of one that it ends with. -/
def star (f : T → Bool) : T → Bool
  | [] => f []
  | x :: t => f (x :: t) || star f t
/-- Just of the pattern. -/
def mat : T → T → Bool
  | [] => fun s => s.isEmpty
  | c :: p => fun s => if c = 42 then star (mat p) s else (match s with
    | [] => false
    | x :: t => x == c && mat p t)

theorem star_iff {f : T → Bool} : ∀ {s : T}, star f s = true ↔ ∃ k, k ≤ s.length ∧ f (s.drop k) = true
  | [] => ⟨fun h => ⟨0, Nat.le_refl _, h⟩, fun ⟨k, hk, h⟩ => by
      obtain rfl : k = 0 := by simpa using hk
      exact h⟩
  | x :: t => by
    simp only [star, Bool.or_eq_true]
    constructor
    · rintro (h | h)
      · exact ⟨0, by omega, h⟩
      · obtain ⟨k, hk, h⟩ := star_iff.mp h
        exact ⟨k + 1, by simp; omega, h⟩
    · rintro ⟨k, hk, h⟩
      cases k with
      | zero => exact .inl h
      | succ k => exact .inr (star_iff.mpr ⟨k, by simpa using hk, h⟩)

theorem mat_nil {s : T} : mat [] s = true ↔ s = [] := by simp [mat]
theorem mat_star {p s : T} : mat (42 :: p) s = true ↔ ∃ k, k ≤ s.length ∧ mat p (s.drop k) = true := by
  simp only [mat]; rw [if_pos trivial]; exact star_iff
theorem mat_byte {c : Int} (hc : c ≠ 42) {p s : T} : mat (c :: p) s = true ↔ ∃ t, s = c :: t ∧ mat p t = true := by
  simp only [mat]; rw [if_neg hc]
  cases s with
  | nil => simp
  | cons x t =>
    simp only [Bool.and_eq_true, beq_iff_eq, List.cons.injEq]
    constructor
    · rintro ⟨rfl, h⟩; exact ⟨t, ⟨rfl, rfl⟩, h⟩
    · rintro ⟨t', ⟨rfl, rfl⟩, h⟩; exact ⟨rfl, h⟩

/-- One pattern behind another. -/
theorem mat_append {q : T} : ∀ {p s : T}, mat (p ++ q) s = true ↔ ∃ j, j ≤ s.length ∧ mat p (s.take j) = true ∧ mat q (s.drop j) = true
  | [], s => by
    constructor
    · intro h; exact ⟨0, by omega, by simp [mat], by simpa using h⟩
    · rintro ⟨j, hj, h1, h2⟩
      rw [mat_nil] at h1
      rcases List.take_eq_nil_iff.mp h1 with rfl | rfl
      · simpa using h2
      · simpa using h2
  | c :: p, s => by
    by_cases hc : c = 42
    · subst hc
      rw [List.cons_append, mat_star]
      constructor
      · rintro ⟨k, hk, h⟩
        obtain ⟨j, hj, h1, h2⟩ := mat_append.mp h
        rw [List.length_drop] at hj
        refine ⟨k + j, by omega, mat_star.mpr ⟨k, by rw [List.length_take]; omega, ?_⟩, by rw [← List.drop_drop]; exact h2⟩
        rw [List.drop_take, show k + j - k = j by omega]; exact h1
      · rintro ⟨j, hj, h1, h2⟩
        obtain ⟨k, hk, h1⟩ := mat_star.mp h1
        rw [List.length_take] at hk
        rw [List.drop_take] at h1
        refine ⟨k, by omega, mat_append.mpr ⟨j - k, by rw [List.length_drop]; omega, h1, ?_⟩⟩
        rw [List.drop_drop, show k + (j - k) = j by omega]; exact h2
    · rw [List.cons_append, mat_byte hc]
      constructor
      · rintro ⟨t, rfl, h⟩
        obtain ⟨j, hj, h1, h2⟩ := mat_append.mp h
        exact ⟨j + 1, by simp; omega, (mat_byte hc).mpr ⟨_, rfl, h1⟩, h2⟩
      · rintro ⟨j, hj, h1, h2⟩
        obtain ⟨t, ht, h1⟩ := (mat_byte hc).mp h1
        cases j with
        | zero => simp at ht
        | succ j =>
          cases s with
          | nil => simp at ht
          | cons x s =>
            simp only [List.take_succ_cons, List.cons.injEq] at ht
            obtain ⟨rfl, rfl⟩ := ht
            exact ⟨s, rfl, mat_append.mpr ⟨j, by simpa using hj, h1, h2⟩⟩

theorem mat_any (s : T) : mat [42] s = true := mat_star.mpr ⟨s.length, Nat.le_refl _, by simp [mat]⟩
/-- What goes on is of it. -/
theorem mat_open {p s : T} : mat (p ++ [42]) s = true ↔ ∃ j, j ≤ s.length ∧ mat p (s.take j) = true := by
  rw [mat_append]
  exact ⟨fun ⟨j, hj, h, _⟩ => ⟨j, hj, h⟩, fun ⟨j, hj, h⟩ => ⟨j, hj, h, mat_any _⟩⟩
theorem mat_snoc {c : Int} (hc : c ≠ 42) {p s : T} : mat (p ++ [c]) s = true ↔ ∃ t, s = t ++ [c] ∧ mat p t = true := by
  rw [mat_append]
  constructor
  · rintro ⟨j, hj, h1, h2⟩
    obtain ⟨t, ht, h2⟩ := (mat_byte hc).mp h2
    rw [mat_nil] at h2; subst h2
    exact ⟨s.take j, by rw [← ht, List.take_append_drop], h1⟩
  · rintro ⟨t, rfl, h⟩
    refine ⟨t.length, by simp, by simpa using h, ?_⟩
    rw [List.drop_left]
    exact (mat_byte hc).mpr ⟨[], rfl, by simp [mat]⟩

/-! step by step along the pattern -/
theorem step_zero_star {p s : T} : mat (p ++ [42]) (s.take 0) = mat p (s.take 0) := by
  rw [Bool.eq_iff_iff, mat_open]
  simp
theorem step_star {p s : T} {j : Nat} (hj : j < s.length) : mat (p ++ [42]) (s.take (j + 1)) = (mat p (s.take (j + 1)) || mat (p ++ [42]) (s.take j)) := by
  rw [Bool.eq_iff_iff, Bool.or_eq_true, mat_open, mat_open]
  simp only [List.length_take, List.take_take]
  constructor
  · rintro ⟨i, hi, h⟩
    rcases Nat.lt_or_ge i (j + 1) with hlt | hge
    · exact .inr ⟨i, by omega, by rwa [show min i j = i by omega, ← show min i (j + 1) = i by omega]⟩
    · exact .inl (by rwa [show min i (j + 1) = j + 1 by omega] at h)
  · rintro (h | ⟨i, hi, h⟩)
    · exact ⟨j + 1, by omega, by rwa [show min (j + 1) (j + 1) = j + 1 by omega]⟩
    · exact ⟨i, by omega, by rwa [show min i (j + 1) = i by omega, ← show min i j = i by omega]⟩
theorem step_zero_byte {c : Int} (hc : c ≠ 42) {p s : T} : mat (p ++ [c]) (s.take 0) = false := by
  rw [Bool.eq_false_iff]
  intro h
  obtain ⟨t, ht, _⟩ := (mat_snoc hc).mp h
  simp at ht
theorem step_byte {c : Int} (hc : c ≠ 42) {p s : T} {j : Nat} {x : Int} {r : T} (hx : s.drop j = x :: r) : mat (p ++ [c]) (s.take (j + 1)) = (mat p (s.take j) && x == c) := by
  have hl : j < s.length := by
    have := congrArg List.length hx
    simp at this; omega
  have hs : s.take (j + 1) = s.take j ++ [x] := by
    rw [List.take_succ_eq_append_getElem hl]
    rw [List.drop_eq_getElem_cons hl] at hx
    injection hx with hx _
    rw [hx]
  rw [Bool.eq_iff_iff, Bool.and_eq_true, beq_iff_eq, mat_snoc hc, hs]
  constructor
  · rintro ⟨t, ht, h⟩
    obtain ⟨h1, h2⟩ := List.append_inj' ht rfl
    simp only [List.cons.injEq, and_true] at h2
    exact ⟨by rw [h1]; exact h, h2⟩
  · rintro ⟨h, rfl⟩
    exact ⟨_, rfl, h⟩

/-! a pattern with its end, or without -/
def endsT (p : T) : Bool := decide (p.getLast? = some 36)
def bodyT (p : T) : T := if endsT p then p.dropLast else p
def has (p s : T) : Bool := if endsT p then mat (bodyT p) s else mat (bodyT p ++ [42]) s

/-- As it is told byte by byte. -/
def lpM : T → T → Bool
  | [] => fun _ => true
  | c :: p => fun s => if c = 36 ∧ p = [] then s.isEmpty else if c = 42 then star (lpM p) s else (match s with
    | [] => false
    | x :: t => x == c && lpM p t)
theorem lpM_body : ∀ {p : T}, (36 : Int) ∉ p → ∀ s, lpM p s = mat (p ++ [42]) s
  | [], _, s => by rw [List.nil_append, mat_any]; rfl
  | c :: p, h, s => by
    simp only [List.mem_cons, not_or] at h
    simp only [lpM, List.cons_append, mat]
    rw [if_neg (fun e => h.1 e.1.symm)]
    have e : lpM p = mat (p ++ [42]) := funext (lpM_body h.2)
    rw [e]
theorem lpM_end : ∀ {p : T}, (36 : Int) ∉ p → ∀ s, lpM (p ++ [36]) s = mat p s
  | [], _, s => by simp [lpM, mat]
  | c :: p, h, s => by
    simp only [List.mem_cons, not_or] at h
    simp only [lpM, List.cons_append, mat]
    rw [if_neg (fun e => h.1 e.1.symm)]
    have e : lpM (p ++ [36]) = mat p := funext (lpM_end h.2)
    rw [e]
theorem body_eq {p : T} (h : endsT p = true) : p = bodyT p ++ [36] := by
  unfold bodyT; rw [if_pos h]
  unfold endsT at h
  rw [decide_eq_true_eq] at h
  rcases List.eq_nil_or_concat p with rfl | ⟨r, c, rfl⟩
  · cases h
  · simp only [List.concat_eq_append, List.getLast?_append, List.getLast?_singleton, Option.some_or, Option.some.injEq] at h
    subst h; simp
theorem lpM_has {p : T} (h : (36 : Int) ∉ bodyT p) (s : T) : lpM p s = has p s := by
  unfold has
  cases he : endsT p with
  | true =>
    rw [if_pos rfl]
    have := lpM_end h s
    rwa [← body_eq he] at this
  | false =>
    rw [if_neg (by simp)]
    have e : bodyT p = p := by unfold bodyT; rw [he]; rfl
    rw [e] at h ⊢
    exact lpM_body h s

/-! parts between stars -/
def sjoin : List T → T
  | [] => []
  | x :: xs => 42 :: (x ++ sjoin xs)
theorem mat_pre {x : T} (hx : (42 : Int) ∉ x) {q s : T} : mat (x ++ q) s = true ↔ x <+: s ∧ mat q (s.drop x.length) = true := by
  induction x generalizing s with
  | nil => simp
  | cons c x ih =>
    simp only [List.mem_cons, not_or] at hx
    rw [List.cons_append, mat_byte (fun e => hx.1 e.symm)]
    constructor
    · rintro ⟨t, rfl, h⟩
      have := (ih hx.2).mp h
      exact ⟨(List.prefix_cons_inj c).mpr this.1, by simpa using this.2⟩
    · rintro ⟨h1, h2⟩
      cases s with
      | nil => simp at h1
      | cons y s =>
        obtain ⟨e, h3⟩ := List.cons_prefix_cons.mp h1
        subst e
        exact ⟨s, rfl, (ih hx.2).mpr ⟨h3, by simpa using h2⟩⟩
theorem mat_later {q s : T} {m : Nat} (h : mat (42 :: q) (s.drop m) = true) : mat (42 :: q) s = true := by
  obtain ⟨k, hk, h⟩ := mat_star.mp h
  rw [List.length_drop] at hk
  rw [List.drop_drop] at h
  by_cases hm : m + k ≤ s.length
  · exact mat_star.mpr ⟨m + k, hm, h⟩
  · rw [List.drop_of_length_le (by omega)] at h
    exact mat_star.mpr ⟨s.length, Nat.le_refl _, by simpa using h⟩
/-- The first place will do. -/
theorem mat_first {x q s : T} (hx : (42 : Int) ∉ x) {k : Nat} (hk : x <+: s.drop k) (hkl : k ≤ s.length) (hmin : ∀ j, j < k → ¬ x <+: s.drop j) : mat (42 :: (x ++ 42 :: q)) s = mat (42 :: q) (s.drop (k + x.length)) := by
  rw [Bool.eq_iff_iff, mat_star]
  constructor
  · rintro ⟨j, hj, h⟩
    obtain ⟨h1, h2⟩ := (mat_pre hx).mp h
    have hkj : k ≤ j := by
      rcases Nat.lt_or_ge j k with hlt | hge
      · exact absurd h1 (hmin j hlt)
      · exact hge
    rw [List.drop_drop] at h2
    apply mat_later (m := j - k)
    rw [List.drop_drop, show k + x.length + (j - k) = j + x.length by omega]
    exact h2
  · intro h
    refine ⟨k, hkl, (mat_pre hx).mpr ⟨hk, ?_⟩⟩
    rwa [List.drop_drop]
theorem mat_nowhere {x q s : T} (hx : (42 : Int) ∉ x) (hno : ∀ j, j ≤ s.length → ¬ x <+: s.drop j) : mat (42 :: (x ++ q)) s = false := by
  rw [Bool.eq_false_iff]
  intro h
  obtain ⟨k, hk, h⟩ := mat_star.mp h
  exact hno k hk ((mat_pre hx).mp h).1
theorem mat_last {x s : T} (hx : (42 : Int) ∉ x) : mat (42 :: x) s = true ↔ x.length ≤ s.length ∧ s.drop (s.length - x.length) = x := by
  rw [mat_star]
  have e : ∀ t : T, mat x t = true ↔ t = x := by
    intro t
    have := mat_pre hx (q := []) (s := t)
    rw [List.append_nil] at this
    rw [this, mat_nil]
    constructor
    · rintro ⟨⟨r, rfl⟩, h⟩
      rw [List.drop_left] at h; subst h; simp
    · rintro rfl; simp
  constructor
  · rintro ⟨k, hk, h⟩
    rw [e] at h
    have hl := congrArg List.length h
    rw [List.length_drop] at hl
    exact ⟨by omega, by rw [show s.length - x.length = k by omega]; exact h⟩
  · rintro ⟨h1, h2⟩
    exact ⟨s.length - x.length, by omega, (e _).mpr h2⟩

/-! laws -/
theorem has_more {p s : T} (he : endsT p = false) (h : has p s = true) (q : T) : has p (s ++ q) = true := by
  unfold has at h ⊢
  rw [he, if_neg (by simp)] at h ⊢
  obtain ⟨j, hj, h⟩ := mat_open.mp h
  exact mat_open.mpr ⟨j, by simp; omega, by rwa [List.take_append_of_le_length hj]⟩
theorem ends_snoc (p : T) (c : Int) : endsT (p ++ [c]) = decide (c = 36) := by
  unfold endsT; simp
theorem has_star {p s : T} (he : endsT p = false) : has (p ++ [42]) s = has p s := by
  unfold has bodyT
  rw [ends_snoc, he]
  simp only [show decide ((42 : Int) = 36) = false from rfl, Bool.false_eq_true, if_false]
  rw [Bool.eq_iff_iff, mat_open, mat_open]
  constructor
  · rintro ⟨j, hj, h⟩
    obtain ⟨i, hi, h⟩ := mat_open.mp h
    rw [List.length_take] at hi
    rw [List.take_take] at h
    exact ⟨min i j, by omega, h⟩
  · rintro ⟨j, hj, h⟩
    exact ⟨j, hj, mat_open.mpr ⟨j, by rw [List.length_take]; omega, by rwa [List.take_take, Nat.min_self]⟩⟩
theorem has_end {p s : T} (he : endsT p = false) (h : has (p ++ [36]) s = true) : has p s = true := by
  unfold has bodyT at h ⊢
  rw [ends_snoc] at h
  rw [he]
  simp only [decide_true, if_true, List.dropLast_concat, Bool.false_eq_true, if_false] at h ⊢
  exact mat_open.mpr ⟨s.length, Nat.le_refl _, by simpa using h⟩
theorem mat_self : ∀ (p : T), mat p p = true
  | [] => rfl
  | c :: p => by
    by_cases hc : c = 42
    · subst hc
      exact mat_star.mpr ⟨1, by simp, mat_self p⟩
    · exact (mat_byte hc).mpr ⟨p, rfl, mat_self p⟩
theorem mat_len {p : T} (h : (42 : Int) ∉ p) {s : T} (hm : mat p s = true) : s = p := by
  have := mat_pre h (q := []) (s := s)
  rw [List.append_nil] at this
  obtain ⟨⟨r, rfl⟩, hr⟩ := this.mp hm
  rw [List.drop_left, mat_nil] at hr
  subst hr; simp
/-- Each byte of a pattern, a star or not, stands for as many of its own. -/
theorem has_self {p : T} (he : endsT p = false) : has p p = true := by
  unfold has bodyT
  rw [he]
  simp only [Bool.false_eq_true, if_false]
  exact mat_open.mpr ⟨p.length, Nat.le_refl _, by simpa using mat_self p⟩

end Go.Proofs.Ytheakfegchndcaa.MatchP

namespace Go.Proofs.Ytheakfegchndcaa.AddrP
open Go Go.RowKit Go.Proofs.Ytheakfegchndcaa.Lib Go.Proofs.Ytheakfegchndcaa.EscP Go.Proofs.Ytheakfegchndcaa.CutP
set_option linter.unusedVariables false
set_option linter.unusedSimpArgs false

structure Ad where
  house : T
  parts : List T
  asks : Bool
  ask : T
def smallB (b : Int) : Bool := decide (97 ≤ b) && decide (b ≤ 122)
def houseOk (h : T) : Bool := decide (1 ≤ h.length) && decide (h.length ≤ 5) && h.all smallB
def norm (s : T) : Bool := decide (escN s = some s)
def idleT (p : T) : Bool := p == [] || p == [46]
def upT (p : T) : Bool := p == [46, 46]
def wayT (p : T) : Bool := !idleT p && !upT p
def joinS : List T → T
  | [] => []
  | [p] => p
  | p :: q :: r => p ++ 47 :: joinS (q :: r)
def askT (a : Ad) : T := if a.asks then 63 :: a.ask else []
def pathT (a : Ad) : T := 47 :: joinS a.parts ++ askT a
def textT (a : Ad) : T := 47 :: 47 :: a.house ++ pathT a
def ok (a : Ad) : Bool := houseOk a.house && decide (a.parts.length ≤ 5) && a.parts.all (fun p => wayT p && norm p) && norm a.ask && (a.asks || decide (a.ask = [])) && decide ((textT a).length ≤ 60)
def RngA (a : Ad) : Prop := Rng a.house ∧ (∀ p ∈ a.parts, Rng p) ∧ Rng a.ask

def stepT (out : List T) (p : T) : List T := if idleT p then out else if upT p then out.dropLast else out ++ [p]
def cleanT (l : List T) : List T := l.foldl stepT []
def escAll (l : List T) : Option (List T) := l.mapM escN
/-- A way, from some parts on. -/
def wayOf (frm : List T) (way : T) : Option (List T × Bool × T) :=
  match escN (cutT 63 way).2.1, escAll (splitT 47 (cutT 63 way).1) with
  | some a, some ps => some (cleanT (frm ++ ps), (cutT 63 way).2.2, a)
  | _, _ => none
def readWay (house : T) (frm : List T) (way : T) : Option Ad :=
  match wayOf frm way with
  | some (ps, asks, a) => if ok ⟨house, ps, asks, a⟩ then some ⟨house, ps, asks, a⟩ else none
  | none => none
def smallOf (b : Int) : Int := if 65 ≤ b ∧ b ≤ 90 then b + 32 else b
def inHouse (b : Int) : Bool := !(b == 47 || b == 63)
def readWhole (rest : T) : Option Ad := readWay ((rest.takeWhile inHouse).map smallOf) [] (rest.dropWhile inHouse)
def readText (t : T) : Option Ad :=
  match t with
  | 47 :: 47 :: rest => readWhole rest
  | _ => none
def read (raw : T) : Option Ad := if raw.length ≤ 60 then readText (cutT 35 raw).1 else none
def joinText (base : Ad) (t : T) : Option Ad :=
  match t with
  | [] => some base
  | 47 :: 47 :: rest => readWhole rest
  | b :: r => if b = 47 then readWay base.house [] (b :: r) else if b = 63 then readWay base.house base.parts (b :: r) else readWay base.house base.parts.dropLast (b :: r)
def joinA (base : Ad) (ref : T) : Option Ad := if ok base ∧ ref.length ≤ 60 then joinText base (cutT 35 ref).1 else none

theorem split_join {l : List T} (hne : l ≠ []) (h : ∀ p ∈ l, (47 : Int) ∉ p) : splitT 47 (joinS l) = l := by
  induction l with
  | nil => exact absurd rfl hne
  | cons p l ih =>
    cases l with
    | nil => simp only [joinS]; exact splitT_none (h p (by simp))
    | cons q r =>
      simp only [joinS]
      rw [splitT_at (h p (by simp)), ih (by simp) (fun x hx => h x (by simp [hx]))]

/-! parts -/
theorem stepT_way {out : List T} {p : T} (h : wayT p = true) : stepT out p = out ++ [p] := by
  unfold wayT at h; unfold stepT
  cases hi : idleT p <;> cases hu : upT p <;> simp_all
theorem stepT_idle {out : List T} {p : T} (h : idleT p = true) : stepT out p = out := by unfold stepT; rw [if_pos h]
theorem stepT_up (out : List T) : stepT out [46, 46] = out.dropLast := rfl
theorem foldT_ways {l : List T} : ∀ {out : List T}, (∀ p ∈ l, wayT p = true) → l.foldl stepT out = out ++ l := by
  induction l with
  | nil => intro out _; simp
  | cons p l ih =>
    intro out h
    rw [List.foldl_cons, stepT_way (h p (by simp)), ih (fun q hq => h q (by simp [hq]))]
    simp
theorem cleanT_ways {l : List T} (h : ∀ p ∈ l, wayT p = true) : cleanT l = l := by unfold cleanT; rw [foldT_ways h]; simp
theorem cleanT_append (a b : List T) : cleanT (a ++ b) = b.foldl stepT (cleanT a) := by unfold cleanT; rw [List.foldl_append]

/-! bytes of what is written in one way -/
def tame (b : Int) : Bool := plainB b || b == 37 || (decide (65 ≤ b) && decide (b ≤ 70))
theorem fig_tame {d : Int} (h0 : 0 ≤ d) (h1 : d ≤ 15) : tame (fig d) = true := by
  have := fig_bd h0 h1
  unfold tame plainB
  rcases this with h | h
  · have e1 : decide (48 ≤ fig d) = true := decide_eq_true h.1
    have e2 : decide (fig d ≤ 57) = true := decide_eq_true h.2
    rw [e1, e2]; simp
  · have e1 : decide (65 ≤ fig d) = true := decide_eq_true h.1
    have e2 : decide (fig d ≤ 70) = true := decide_eq_true h.2
    rw [e1, e2]; simp
theorem enc_tame {n : Int} (h0 : 0 ≤ n) (h1 : n ≤ 255) : ∀ x ∈ enc n, tame x = true := by
  unfold enc
  split
  · rename_i h
    intro x hx
    rw [List.mem_singleton] at hx; subst hx
    unfold tame; rw [h]; rfl
  · intro x hx
    simp only [List.mem_cons, List.not_mem_nil, or_false] at hx
    rcases hx with rfl | rfl | rfl
    · rfl
    · exact fig_tame (by omega) (by omega)
    · exact fig_tame (by omega) (by omega)
theorem encs_tame {t : T} (h : Rng t) : ∀ x ∈ encs t, tame x = true := by
  intro x hx
  simp only [encs, List.mem_flatMap] at hx
  obtain ⟨n, hn, hx⟩ := hx
  exact enc_tame (h n hn).1 (h n hn).2 x hx
theorem escN_tame {s t : T} (hr : Rng s) (h : escN s = some t) : (∀ x ∈ t, tame x = true) ∧ Rng t := by
  unfold escN at h
  split at h
  · unfold esc at h
    cases hd : dec s with
    | none => rw [hd] at h; cases h
    | some u =>
      rw [hd] at h; cases h
      have := (dec_bd _ (Nat.le_refl _) hr hd).1
      exact ⟨encs_tame this, encs_bd this⟩
  · cases h
theorem norm_eq {s : T} : norm s = true ↔ escN s = some s := by unfold norm; simp
theorem norm_tame {s : T} (hr : Rng s) (h : norm s = true) : ∀ x ∈ s, tame x = true := (escN_tame hr (norm_eq.mp h)).1
theorem tame_ne {b c : Int} (h : tame b = true) (hc : tame c = false) : b ≠ c := by rintro rfl; rw [h] at hc; cases hc
theorem tame_not {s : T} {c : Int} (h : ∀ x ∈ s, tame x = true) (hc : tame c = false) : c ∉ s := fun hm => tame_ne (h c hm) hc rfl
theorem norm_nil : escN [] = some [] := by unfold escN; rw [if_pos (by simp), esc_nil]

theorem escAll_norm {l : List T} (h : ∀ p ∈ l, escN p = some p) : escAll l = some l := by
  unfold escAll
  induction l with
  | nil => rfl
  | cons p l ih =>
    rw [List.mapM_cons, h p (by simp), ih (fun q hq => h q (by simp [hq]))]
    rfl
theorem escAll_append (a b : List T) : escAll (a ++ b) = (escAll a).bind fun x => (escAll b).map fun y => x ++ y := by
  unfold escAll
  rw [List.mapM_append]
  cases List.mapM escN a with
  | none => rfl
  | some x => cases List.mapM escN b <;> rfl

/-! an address that is ok -/
structure Ok (a : Ad) : Prop where
  h1 : 1 ≤ a.house.length
  h5 : a.house.length ≤ 5
  small : ∀ b ∈ a.house, 97 ≤ b ∧ b ≤ 122
  p5 : a.parts.length ≤ 5
  way : ∀ p ∈ a.parts, wayT p = true
  nrm : ∀ p ∈ a.parts, escN p = some p
  nask : escN a.ask = some a.ask
  asks : a.asks = true ∨ a.ask = []
  len : (textT a).length ≤ 60
theorem ok_iff (a : Ad) : ok a = true ↔ Ok a := by
  unfold ok houseOk
  simp only [Bool.and_eq_true, decide_eq_true_eq, List.all_eq_true, Bool.or_eq_true, norm_eq, smallB]
  constructor
  · rintro ⟨⟨⟨⟨⟨⟨⟨a1, a2⟩, a3⟩, a4⟩, a5⟩, a6⟩, a7⟩, a8⟩
    exact ⟨a1, a2, a3, a4, fun p hp => (a5 p hp).1, fun p hp => (a5 p hp).2, a6, a7, a8⟩
  · rintro ⟨a1, a2, a3, a4, a5, a5', a6, a7, a8⟩
    exact ⟨⟨⟨⟨⟨⟨⟨a1, a2⟩, a3⟩, a4⟩, fun p hp => ⟨a5 p hp, a5' p hp⟩⟩, a6⟩, a7⟩, a8⟩

theorem Ok.tameP {a : Ad} (h : Ok a) (hr : RngA a) : ∀ p ∈ a.parts, ∀ x ∈ p, tame x = true := fun p hp => norm_tame (hr.2.1 p hp) (norm_eq.mpr (h.nrm p hp))
theorem Ok.tameA {a : Ad} (h : Ok a) (hr : RngA a) : ∀ x ∈ a.ask, tame x = true := norm_tame hr.2.2 (norm_eq.mpr h.nask)
theorem joinS_not {c : Int} (hc : c ≠ 47) {l : List T} (h : ∀ p ∈ l, c ∉ p) : c ∉ joinS l := by
  induction l with
  | nil => simp [joinS]
  | cons p l ih =>
    cases l with
    | nil => simp only [joinS]; exact h p (by simp)
    | cons q r =>
      simp only [joinS, List.mem_append, List.mem_cons, not_or]
      exact ⟨h p (by simp), hc, ih (fun x hx => h x (by simp [hx]))⟩

/-- The way of an ok address is read as it is. -/
theorem way_back {a : Ad} (h : Ok a) (hr : RngA a) : wayOf [] (pathT a) = some (a.parts, a.asks, a.ask) := by
  have tp := h.tameP hr
  have n63 : (63 : Int) ∉ 47 :: joinS a.parts := by
    simp only [List.mem_cons, not_or]
    exact ⟨by decide, joinS_not (by decide) (fun p hp => tame_not (tp p hp) rfl)⟩
  have hcut : cutT 63 (pathT a) = (47 :: joinS a.parts, a.ask, a.asks) := by
    unfold pathT askT
    cases ha : a.asks with
    | true => rw [if_pos rfl]; exact cutT_at n63 _
    | false =>
      rw [if_neg (by simp), List.append_nil, cutT_none n63]
      rcases h.asks with h | h
      · rw [ha] at h; cases h
      · rw [h]
  have hsp : splitT 47 (47 :: joinS a.parts) = [] :: splitT 47 (joinS a.parts) := by simp [splitT]
  unfold wayOf
  rw [hcut]
  simp only
  rw [h.nask, hsp]
  by_cases hp : a.parts = []
  · have e : joinS a.parts = [] := by rw [hp]; rfl
    rw [e, show splitT 47 [] = [[]] from rfl, escAll_norm (by intro p hp; simp at hp; subst hp; exact norm_nil)]
    simp only [hp]; rfl
  · rw [split_join hp (fun p hp' => tame_not (tp p hp') rfl), escAll_norm (by
      intro p hp'
      rcases List.mem_cons.mp hp' with rfl | hp'
      · exact norm_nil
      · exact h.nrm p hp')]
    simp only [List.nil_append]
    have : cleanT ([] :: a.parts) = a.parts := by
      show List.foldl stepT (stepT [] []) a.parts = _
      rw [stepT_idle rfl]; exact cleanT_ways h.way
    rw [this]

theorem readWay_back {a : Ad} (h : Ok a) (hr : RngA a) : readWay a.house [] (pathT a) = some a := by
  unfold readWay
  rw [way_back h hr]
  simp only
  rw [if_pos ((ok_iff a).mpr h)]

theorem small_in {b : Int} (h : 97 ≤ b ∧ b ≤ 122) : inHouse b = true := by
  unfold inHouse
  have : b ≠ 47 ∧ b ≠ 63 := by omega
  simp [this]
theorem takeWhile_all {P : Int → Bool} {p q : T} {b : Int} (h : ∀ x ∈ p, P x = true) (hb : P b = false) : (p ++ b :: q).takeWhile P = p ∧ (p ++ b :: q).dropWhile P = b :: q := by
  induction p with
  | nil => simp [hb]
  | cons x p ih =>
    have := ih (fun y hy => h y (by simp [hy]))
    simp [h x (by simp), this.1, this.2]

theorem readWhole_back {a : Ad} (h : Ok a) (hr : RngA a) : readWhole (a.house ++ pathT a) = some a := by
  unfold readWhole
  have e := takeWhile_all (P := inHouse) (p := a.house) (b := 47) (q := joinS a.parts ++ askT a) (fun x hx => small_in (h.small x hx)) rfl
  have ep : pathT a = 47 :: (joinS a.parts ++ askT a) := rfl
  rw [ep, e.1, e.2, ← ep]
  have : a.house.map smallOf = a.house := by
    conv => rhs; rw [← List.map_id a.house]
    apply List.map_congr_left
    intro x hx
    have := h.small x hx
    unfold smallOf; rw [if_neg (by omega)]; rfl
  rw [this]
  exact readWay_back h hr

theorem no_cross {a : Ad} (h : Ok a) (hr : RngA a) : (35 : Int) ∉ pathT a := by
  unfold pathT askT
  simp only [List.mem_append, List.mem_cons, not_or, List.cons_append]
  refine ⟨by decide, joinS_not (by decide) (fun p hp => tame_not (h.tameP hr p hp) rfl), ?_⟩
  split
  · simp only [List.mem_cons, not_or]
    exact ⟨by decide, tame_not (h.tameA hr) rfl⟩
  · simp
theorem text_no_cross {a : Ad} (h : Ok a) (hr : RngA a) : (35 : Int) ∉ textT a := by
  unfold textT
  simp only [List.mem_append, List.mem_cons, not_or, List.cons_append]
  refine ⟨by decide, by decide, fun hm => ?_, no_cross h hr⟩
  have := h.small _ hm
  omega

/-- An address is read back from its text. -/
theorem read_back {a : Ad} (h : Ok a) (hr : RngA a) : read (textT a) = some a := by
  unfold read
  rw [if_pos h.len, cutT_none (text_no_cross h hr)]
  exact readWhole_back h hr
theorem readWay_ok {house : T} {frm : List T} {way : T} {a : Ad} (h : readWay house frm way = some a) : Ok a ∧ a.house = house := by
  unfold readWay at h
  split at h
  · split at h
    · rename_i hk; cases h; exact ⟨(ok_iff _).mp hk, rfl⟩
    · cases h
  · cases h
theorem readWhole_ok {rest : T} {a : Ad} (h : readWhole rest = some a) : Ok a := (readWay_ok h).1
theorem readText_ok {t : T} {a : Ad} (h : readText t = some a) : Ok a := by
  unfold readText at h
  split at h
  · exact readWhole_ok h
  · cases h
theorem read_ok {raw : T} {a : Ad} (h : read raw = some a) : Ok a := by
  unfold read at h
  split at h
  · exact readText_ok h
  · cases h

end Go.Proofs.Ytheakfegchndcaa.AddrP
