/- Parts of a way gone by one behind the other, as a function of lists of strings; and what holds of it. No program in sight. Condition: none. -/
import Derived.Test.YtmkncihmgbjgnaaLib
namespace Go.Proofs.Ytmkncihmgbjgnaa.PathP
open Go Go.RowKit Go.Proofs.Ytmkncihmgbjgnaa.Lib Go.Proofs.YtmkncihmgbjgnaaW.PrintWords
set_option linter.unusedVariables false
set_option linter.unusedSimpArgs false

/-- Nothing is said by a part. -/
def Idle (p : ByteArray) : Prop := L p = [] ∨ L p = [46]
def Up (p : ByteArray) : Prop := L p = [46, 46]
instance (p : ByteArray) : Decidable (Idle p) := inferInstanceAs (Decidable (_ ∨ _))
instance (p : ByteArray) : Decidable (Up p) := inferInstanceAs (Decidable (_ = _))
def stepP (out : List ByteArray) (p : ByteArray) : List ByteArray := if Idle p then out else if Up p then out.dropLast else out ++ [p]
def clean (l : List ByteArray) : List ByteArray := l.foldl stepP []
def Way (p : ByteArray) : Prop := ¬ Idle p ∧ ¬ Up p

theorem stepP_way {out : List ByteArray} {p : ByteArray} (h : Way p) : stepP out p = out ++ [p] := by
  unfold stepP; rw [if_neg h.1, if_neg h.2]
theorem stepP_idle {out : List ByteArray} {p : ByteArray} (h : Idle p) : stepP out p = out := by
  unfold stepP; rw [if_pos h]
theorem up_not_idle {p : ByteArray} (h : Up p) : ¬ Idle p := by
  unfold Up at h; unfold Idle; rw [h]; simp
theorem stepP_up {out : List ByteArray} {p : ByteArray} (h : Up p) : stepP out p = out.dropLast := by
  unfold stepP; rw [if_neg (up_not_idle h), if_pos h]

theorem fold_ways {l : List ByteArray} : ∀ {out : List ByteArray}, (∀ p ∈ l, Way p) → l.foldl stepP out = out ++ l := by
  induction l with
  | nil => intro out _; simp
  | cons p l ih =>
    intro out h
    rw [List.foldl_cons, stepP_way (h p (by simp)), ih (fun q hq => h q (by simp [hq]))]
    simp
theorem fold_all {P : ByteArray → Prop} {l : List ByteArray} : ∀ {out : List ByteArray}, (∀ p ∈ out, P p) → (∀ p ∈ l, Way p → P p) → ∀ p ∈ l.foldl stepP out, P p := by
  induction l with
  | nil => intro out h _; exact h
  | cons q l ih =>
    intro out h hl
    rw [List.foldl_cons]
    refine ih ?_ (fun p hp => hl p (by simp [hp]))
    intro p hp
    unfold stepP at hp
    split at hp
    · exact h p hp
    · split at hp
      · exact h p (List.dropLast_subset _ hp)
      · rcases List.mem_append.mp hp with hp | hp
        · exact h p hp
        · rw [List.mem_singleton] at hp; subst hp
          exact hl p (by simp) ⟨by assumption, by assumption⟩
theorem clean_ways (l : List ByteArray) : ∀ p ∈ clean l, Way p := fold_all (by simp) (fun _ _ h => h)
theorem clean_sub (l : List ByteArray) : ∀ p ∈ clean l, p ∈ l := fold_all (by simp) (fun _ h _ => h)
theorem clean_of_ways {l : List ByteArray} (h : ∀ p ∈ l, Way p) : clean l = l := by unfold clean; rw [fold_ways h]; simp
theorem clean_clean (l : List ByteArray) : clean (clean l) = clean l := clean_of_ways (clean_ways l)
theorem clean_append (a b : List ByteArray) : clean (a ++ b) = b.foldl stepP (clean a) := by unfold clean; rw [List.foldl_append]
/-- Cut anywhere. -/
theorem clean_cut (a b : List ByteArray) : clean (clean a ++ b) = clean (a ++ b) := by rw [clean_append, clean_append, clean_clean]
theorem fold_len {l : List ByteArray} : ∀ {out : List ByteArray}, (l.foldl stepP out).length ≤ out.length + l.length := by
  induction l with
  | nil => intro out; simp
  | cons p l ih =>
    intro out
    rw [List.foldl_cons]
    have := ih (out := stepP out p)
    have h2 : (stepP out p).length ≤ out.length + 1 := by
      unfold stepP
      split
      · omega
      · split
        · rw [List.length_dropLast]; omega
        · simp
    simp only [List.length_cons]; omega
theorem clean_len (l : List ByteArray) : (clean l).length ≤ l.length := by
  have := fold_len (l := l) (out := [])
  simpa [clean] using this

end Go.Proofs.Ytmkncihmgbjgnaa.PathP
