/- What the laws on written texts lean on: of the program and of the reference together. Condition: none. -/
import Derived.Test.YtpganphmapdkcaaPx11
import Derived.Test.YtpganphmapdkcaaPx14
import Derived.Test.YtpganphmapdkcaaEscI
import Derived.Test.YtpganphmapdkcaaEscD
namespace Go.Proofs.Ytpganphmapdkcaa.EscL
open Go Go.RowKit Go.Proofs.Ytpganphmapdkcaa.P Go.Proofs.Ytpganphmapdkcaa.Lib Go.Proofs.Ytpganphmapdkcaa.EscP Go.Proofs.Ytpganphmapdkcaa.RuleOkF Go.Proofs.Ytpganphmapdkcaa.EscF Go.Proofs.Ytpganphmapdkcaa.EscI Go.Proofs.YtpganphmapdkcaaW.PrintWords Go.Proofs.YtpganphmapdkcaaW.PrintLast
set_option linter.unusedVariables false
set_option linter.unusedSimpArgs false

/-- What was written in one way is made of bytes that were meant. -/
theorem meant {s : ByteArray} {r : ByteArray × Bool} (h : IsNorm s r) (hr : r.2 = true) : ∃ u, dec (L s) = some u ∧ (∀ x ∈ u, 0 ≤ x ∧ x ≤ 255) ∧ L r.1 = EscP.encs u := by
  have e := norm_some h hr
  unfold escN at e
  split at e
  · unfold esc at e
    cases hd : dec (L s) with
    | none => rw [hd] at e; cases e
    | some u =>
      rw [hd] at e
      refine ⟨u, rfl, (dec_bd _ (Nat.le_refl _) (L_range s) hd).1, ?_⟩
      exact (Option.some.inj e).symm
  · cases e

/-- A text that stays short is written, if it was. -/
theorem isNorm_some {s : ByteArray} {r : ByteArray × Bool} {t : List Int} (h : IsNorm s r) (he : escN (L s) = some t) : r.2 = true ∧ L r.1 = t := by
  unfold IsNorm at h; rw [he] at h; exact h
theorem isNorm_none {s : ByteArray} {r : ByteArray × Bool} (h : IsNorm s r) (he : escN (L s) = none) : r = ((⟨#[]⟩ : ByteArray), false) := by
  unfold IsNorm at h; rw [he] at h; exact h

/-- A sign that is not whole is none. -/
theorem dec_cut_none {q : List Int} (hq : q = [37] ∨ q = [37, 52]) : ∀ (m : Nat) (p : List Int), p.length ≤ m → dec (p ++ q) = none := by
  have hv : hexv 37 = none := rfl
  have base : dec q = none := by
    rcases hq with rfl | rfl
    · exact dec_none (by simp [head1]) (by simp)
    · exact dec_none (by simp [head1]) (by simp)
  intro m
  induction m with
  | zero =>
    intro p hm
    obtain rfl : p = [] := List.eq_nil_of_length_eq_zero (by omega)
    exact base
  | succ m ih =>
    intro p hm
    cases hh : head1 p with
    | some z =>
      obtain ⟨n, r⟩ := z
      have := head1_lt hh
      rw [dec_some (head1_append hh q), ih r (by omega)]; rfl
    | none =>
      rcases p with _ | ⟨b, p⟩
      · exact base
      · refine dec_none ?_ (by simp)
        by_cases hb : b = 37
        rotate_left
        · simp [head1, hb] at hh
        subst hb
        rcases p with _ | ⟨x, _ | ⟨y, p⟩⟩
        · rcases hq with rfl | rfl <;> simp [head1, hv]
        · rcases hq with rfl | rfl <;> cases hexv x <;> simp [head1, hv]
        · simp only [head1, List.cons_append, if_true] at hh ⊢
          cases hx : hexv x <;> cases hy : hexv y <;> simp_all

/-! how many bytes are meant -/
theorem bytes_loop (s : ByteArray) (hs : s.size ≤ 100000) (d : Nat) : ∀ (i c : Int) (u : List Int), 0 ≤ i → i ≤ s.size → (s.size : Int) - i ≤ d → 0 ≤ c → c + (s.size - i) ≤ 200000 → dec ((L s).drop i.toNat) = some u →
    Ev (fun k => laws_lpBytes.l0 k s c i) (c + u.length) := by
  have hL := L_length s
  have hend : ∀ (i c : Int) (u : List Int), i = s.size → dec ((L s).drop i.toNat) = some u → Ev (fun k => laws_lpBytes.l0 k s c i) (c + u.length) := by
    intro i c u hi hd
    rw [List.drop_of_length_le (by omega), dec_nil] at hd
    cases hd
    refine Ev.step (f := fun _ => some c) (fun k => ?_) (Ev.const (by simp))
    simp only [laws_lpBytes.l0]; rw [if_neg (by omega)]
  induction d with
  | zero => intro i c u h0 h1 hd hc hb hu; exact hend i c u (by omega) hu
  | succ d ih =>
    intro i c u h0 h1 hd hc hb hu
    by_cases hlt : i < (s.size : Int)
    rotate_left
    · exact hend i c u (by omega) hu
    obtain ⟨b, q, hbr⟩ := drop_lt (l := L s) (i := i.toNat) (by omega)
    have hb' : bt s i = b := bt_get hbr
    have hn : (L s).drop (i.toNat + 1) = q := drop_next hbr
    have hql : (q.length : Int) = s.size - i - 1 := by
      have := congrArg List.length hn
      simp at this; omega
    rw [hbr] at hu
    cases hh : head1 (b :: q) with
    | none => rw [dec_none hh (by simp)] at hu; cases hu
    | some z =>
      obtain ⟨n, r⟩ := z
      rw [dec_some hh] at hu
      cases hr : dec r with
      | none => rw [hr] at hu; cases hu
      | some t =>
        rw [hr] at hu; cases hu
        have w1 : wrap64 (c + 1) = c + 1 := w64 (by omega) (by omega)
        by_cases h37 : b = 37
        · subst h37
          rcases q with _ | ⟨x, _ | ⟨y, q⟩⟩
          · simp [head1] at hh
          · simp [head1] at hh
          · have hrq : r = q := by
              simp only [head1, if_true] at hh
              split at hh
              · cases hh; rfl
              · cases hh
            subst hrq
            simp only [List.length_cons] at hql
            have hd3 : (L s).drop (i + 3).toNat = r := by
              rw [show (i + 3).toNat = i.toNat + 1 + 2 by omega, ← List.drop_drop, hn]; rfl
            have I := ih (i + 3) (c + 1) t (by omega) (by omega) (by omega) (by omega) (by omega) (by rw [hd3]; exact hr)
            rw [show c + ((n :: t).length : Int) = c + 1 + t.length by simp; omega]
            refine Ev.step (fun k => ?_) I
            simp only [laws_lpBytes.l0]
            rw [if_pos hlt, if_pos h0, hb', if_pos rfl, w1, w64 (x := i + 2) (by omega) (by omega), w64 (x := i + 2 + 1) (by omega) (by omega), show i + 2 + 1 = i + 3 by omega]
        · have hrq : r = q := by
            simp only [head1, if_neg h37] at hh
            cases hh; rfl
          subst hrq
          have I := ih (i + 1) (c + 1) t (by omega) (by omega) (by omega) (by omega) (by omega) (by rw [show (i + 1).toNat = i.toNat + 1 by omega, hn]; exact hr)
          rw [show c + ((n :: t).length : Int) = c + 1 + t.length by simp; omega]
          refine Ev.step (fun k => ?_) I
          simp only [laws_lpBytes.l0]
          rw [if_pos hlt, if_pos h0, hb', if_neg h37, w1, w64 (x := i + 1) (by omega) (by omega)]
theorem bytes_ev {s : ByteArray} (hs : s.size ≤ 100000) {u : List Int} (h : dec (L s) = some u) : Ev (fun k => laws_lpBytes.f k s) (u.length : Int) := by
  have := bytes_loop s hs s.size 0 0 u (by omega) (by omega) (by omega) (by omega) (by omega) (by simpa using h)
  simpa [laws_lpBytes.f] using this

/-! what is written is plain, or a sign -/
theorem plain_loop (s : ByteArray) (hs : s.size ≤ 100000) (u : List Int) : ∀ (i : Int), (∀ x ∈ u, 0 ≤ x ∧ x ≤ 255) → 0 ≤ i → i ≤ s.size → (L s).drop i.toNat = EscP.encs u → Ev (fun k => laws_FnEscPlain.l0 k s i) true := by
  have hL := L_length s
  induction u with
  | nil =>
    intro i _ h0 h1 hd
    have hl := congrArg List.length hd
    simp [EscP.encs] at hl
    refine Ev.step (f := fun _ => some true) (fun k => ?_) (Ev.const rfl)
    simp only [laws_FnEscPlain.l0]; rw [if_neg (by omega)]
  | cons n u ih =>
    intro i hb h0 h1 hd
    have hn := hb n (by simp)
    have e : EscP.encs (n :: u) = enc n ++ EscP.encs u := by simp [EscP.encs]
    rw [e] at hd
    have hl := congrArg List.length hd
    rw [List.length_drop, List.length_append] at hl
    cases hp : plainB n with
    | true =>
      have he : enc n = [n] := by unfold enc; rw [hp]; rfl
      rw [he] at hd hl
      simp only [List.length_singleton] at hl
      have hbt : bt s i = n := bt_get hd
      have I := ih (i + 1) (fun x hx => hb x (by simp [hx])) (by omega) (by omega) (by rw [show (i + 1).toNat = i.toNat + 1 by omega]; exact drop_next hd)
      have J : Ev (fun k => laws_FnEscPlain.j2 k s i n true) true := by
        refine Ev.step (f := fun k => laws_FnEscPlain.j3 k s i true false) (fun k => ?_) (Ev.step (f := fun k => laws_FnEscPlain.l0 k s (i + 1)) (fun k => ?_) I)
        · simp only [laws_FnEscPlain.j2]; rw [if_neg (plain_ne hp)]
        · simp only [laws_FnEscPlain.j3]; rw [if_neg (by simp), if_pos trivial, w64 (x := i + 1) (by omega) (by omega)]
      refine Ev.step (f := fun k => laws_FnEscPlain.j2 k s i n true) (fun k => ?_) J
      simp only [laws_FnEscPlain.l0]
      rw [if_pos (by omega), if_pos h0, hbt]
      have hp' : (97 ≤ n ∧ n ≤ 122) ∨ (48 ≤ n ∧ n ≤ 57) ∨ n = 46 ∨ n = 45 := by
        unfold plainB at hp
        simpa [Bool.or_eq_true, Bool.and_eq_true, or_assoc] using hp
      repeat' split
      all_goals first | rfl | (exfalso; omega) | (rw [beq_iff_eq.mpr (by omega : n = 45)])
    | false =>
      have he : enc n = [37, fig (n / 16), fig (n % 16)] := by unfold enc; rw [hp]; rfl
      rw [he] at hd hl
      simp only [List.length_cons, List.length_nil] at hl
      have hbt : bt s i = 37 := bt_get hd
      have I := ih (i + 3) (fun x hx => hb x (by simp [hx])) (by omega) (by omega) (by
        rw [show (i + 3).toNat = i.toNat + 3 by omega, ← List.drop_drop, hd]; rfl)
      have hlt : i + 2 < (s.size : Int) := by omega
      have J : ∀ b, Ev (fun k => laws_FnEscPlain.j2 k s i 37 b) true := by
        intro b
        refine Ev.step (f := fun k => laws_FnEscPlain.j3 k s i b true) (fun k => ?_) (Ev.step (f := fun k => laws_FnEscPlain.l0 k s (i + 3)) (fun k => ?_) I)
        · simp only [laws_FnEscPlain.j2]; rw [if_pos trivial, w64 (x := i + 2) (by omega) (by omega), decide_eq_true hlt]
        · simp only [laws_FnEscPlain.j3]; rw [if_pos trivial, w64 (x := i + 2) (by omega) (by omega), w64 (x := i + 2 + 1) (by omega) (by omega), show i + 2 + 1 = i + 3 by omega]
      refine Ev.step (f := fun k => laws_FnEscPlain.j2 k s i 37 ((37 : Int) == 45)) (fun k => ?_) (J _)
      simp only [laws_FnEscPlain.l0]
      rw [if_pos (by omega), if_pos h0, hbt, if_neg (by decide), if_neg (by decide), if_neg (by decide)]

end Go.Proofs.Ytpganphmapdkcaa.EscL
