/- What the reference's matching answers: whether a way is of a pattern. Condition: an ok pattern's size, and a way of at most 60 bytes. -/
import Derived.Test.YtmkncihmgbjgnaaPx3
import Derived.Test.YtmkncihmgbjgnaaCutF
import Derived.Test.YtmkncihmgbjgnaaByteP
namespace Go.Proofs.Ytmkncihmgbjgnaa.FindF
open Go Go.RowKit Go.Proofs.Ytmkncihmgbjgnaa.P Go.Proofs.Ytmkncihmgbjgnaa.Lib Go.Proofs.Ytmkncihmgbjgnaa.CutP Go.Proofs.Ytmkncihmgbjgnaa.CutF Go.Proofs.Ytmkncihmgbjgnaa.MatchP Go.Proofs.YtmkncihmgbjgnaaW.PrintWords Go.Proofs.YtmkncihmgbjgnaaW.PrintLast
set_option linter.unusedVariables false
set_option linter.unusedSimpArgs false

theorem piece (s t : ByteArray) (i : Int) (h0 : 0 ≤ i) (h1 : i + t.size ≤ s.size) : (s.extract (i : Int).toNat (i + (t.size : Int)).toNat).toList = t.toList ↔ L t <+: (L s).drop i.toNat := by
  rw [toList_iff, ← L_iff, L_extract, List.drop_take, show (i + (t.size : Int)).toNat - i.toNat = t.size by omega, List.prefix_iff_eq_take, L_length]
  exact eq_comm

theorem find_loop (s t : ByteArray) (hs : s.size ≤ 100000) (ht : t.size ≤ 100000) (d : Nat) : ∀ (i : Int), 0 ≤ i → i ≤ 200000 → (s.size : Int) + 1 - i ≤ d →
    ∃ v, Ev (fun k => spec_l2Find.l0 k s t i) v ∧ ((v = -1 ∧ ∀ j : Nat, i ≤ j → j ≤ s.size → ¬ L t <+: (L s).drop j) ∨ (i ≤ v ∧ v + t.size ≤ s.size ∧ L t <+: (L s).drop v.toNat ∧ ∀ j : Nat, i ≤ j → (j : Int) < v → ¬ L t <+: (L s).drop j)) := by
  have hL := L_length s
  have hend : ∀ i : Int, 0 ≤ i → i ≤ 200000 → ¬ i + t.size ≤ s.size → ∃ v, Ev (fun k => spec_l2Find.l0 k s t i) v ∧ ((v = -1 ∧ ∀ j : Nat, i ≤ j → j ≤ s.size → ¬ L t <+: (L s).drop j) ∨ (i ≤ v ∧ v + t.size ≤ s.size ∧ L t <+: (L s).drop v.toNat ∧ ∀ j : Nat, i ≤ j → (j : Int) < v → ¬ L t <+: (L s).drop j)) := by
    intro i h0 h1 h
    refine ⟨-1, Ev.step (f := fun _ => some (-1)) (fun k => ?_) (Ev.const rfl), .inl ⟨rfl, fun j hj _ hp => ?_⟩⟩
    · simp only [spec_l2Find.l0]; rw [w64 (x := i + t.size) (by omega) (by omega), if_neg h]
    · have := hp.length_le
      rw [List.length_drop, L_length, L_length] at this
      omega
  induction d with
  | zero => intro i h0 h1 hd; exact hend i h0 h1 (by omega)
  | succ d ih =>
    intro i h0 h1 hd
    by_cases hle : i + t.size ≤ (s.size : Int)
    rotate_left
    · exact hend i h0 h1 hle
    have w1 : wrap64 (i + t.size) = i + t.size := w64 (by omega) (by omega)
    by_cases hp : L t <+: (L s).drop i.toNat
    · refine ⟨i, Ev.step (f := fun _ => some i) (fun k => ?_) (Ev.const rfl), .inr ⟨Int.le_refl _, hle, hp, fun j hj hj2 => by omega⟩⟩
      simp only [spec_l2Find.l0]
      rw [w1, if_pos hle, if_pos h0, if_pos (by omega), if_pos ((piece s t i h0 hle).mpr hp)]
    · obtain ⟨v, hv, hr⟩ := ih (i + 1) (by omega) (by omega) (by omega)
      refine ⟨v, Ev.step (f := fun k => spec_l2Find.l0 k s t (i + 1)) (fun k => ?_) hv, ?_⟩
      · simp only [spec_l2Find.l0]
        rw [w1, if_pos hle, if_pos h0, if_pos (by omega), if_neg (fun h => hp ((piece s t i h0 hle).mp h)), w64 (x := i + 1) (by omega) (by omega)]
      · have here : ∀ j : Nat, (j : Int) = i → ¬ L t <+: (L s).drop j := by
          intro j hj; rw [show j = i.toNat by omega]; exact hp
        rcases hr with ⟨e, hr⟩ | ⟨e1, e2, e3, e4⟩
        · refine .inl ⟨e, fun j hj hj2 => ?_⟩
          by_cases hji : (j : Int) = i
          · exact here j hji
          · exact hr j (by omega) hj2
        · refine .inr ⟨by omega, e2, e3, fun j hj hj2 => ?_⟩
          by_cases hji : (j : Int) = i
          · exact here j hji
          · exact e4 j (by omega) hj2

theorem sjoin_eq (xs : List T) : sjoin xs = unsplit 42 xs := by
  induction xs with
  | nil => rfl
  | cons x xs ih => simp only [sjoin, unsplit, ih]

/-- What is left to be found. -/
def rest (ends : Bool) (xs : List T) (t : T) : Bool := if ends then mat (sjoin xs) t else mat (sjoin xs ++ [42]) t

theorem has_loop (s : ByteArray) (hs : s.size ≤ 60) (ends : Bool) (ps : List ByteArray) (hp : ps.length ≤ 100) (hno : ∀ p ∈ ps, (42 : Int) ∉ L p) (hsz : ∀ p ∈ ps, p.size ≤ 100) (d : Nat) : ∀ (i a : Int), 0 ≤ i → i ≤ ps.length → (ps.length : Int) - i ≤ d → 0 ≤ a → a ≤ s.size →
    Ev (fun k => spec_l2Has.l0 k s ends ps a i) (rest ends ((ps.drop i.toNat).map L) ((L s).drop a.toNat)) := by
  have hL := L_length s
  have hend : ∀ (i a : Int), i = ps.length → 0 ≤ a → a ≤ s.size → Ev (fun k => spec_l2Has.l0 k s ends ps a i) (rest ends ((ps.drop i.toNat).map L) ((L s).drop a.toNat)) := by
    intro i a hi ha ha2
    rw [List.drop_of_length_le (by omega)]
    have : rest ends (List.map L []) ((L s).drop a.toNat) = if ends = true then (a == (s.size : Int)) else true := by
      unfold rest
      cases ends with
      | true =>
        rw [if_pos rfl, if_pos rfl, Bool.eq_iff_iff, beq_iff_eq]
        show mat [] _ = true ↔ _
        rw [mat_nil, List.drop_eq_nil_iff]; omega
      | false =>
        rw [if_neg (by simp), if_neg (by simp)]
        exact mat_any _
    rw [this]
    refine Ev.step (f := fun _ => some (if ends = true then (a == (s.size : Int)) else true)) (fun k => ?_) (Ev.const rfl)
    simp only [spec_l2Has.l0]; rw [if_neg (by omega)]
    cases ends <;> simp
  induction d with
  | zero => intro i a h0 h1 hd ha ha2; exact hend i a (by omega) ha ha2
  | succ d ih =>
    intro i a h0 h1 hd ha ha2
    by_cases hlt : i < (ps.length : Int)
    rotate_left
    · exact hend i a (by omega) ha ha2
    obtain ⟨p, q, hpq⟩ := drop_lt (l := ps) (i := i.toNat) (by omega)
    have hpm : p ∈ ps := List.mem_of_mem_drop (by rw [hpq]; simp)
    have hr := rdOf_get (d := ByteArray.empty) hpq
    have hn : ps.drop (i + 1).toNat = q := by rw [show (i + 1).toNat = i.toNat + 1 by omega]; exact drop_next' hpq
    have hql : (q.length : Int) = ps.length - i - 1 := by
      have := congrArg List.length hn
      simp at this; omega
    have hps := hsz p hpm
    rw [hpq]
    have w1 : wrap64 (i + 1) = i + 1 := w64 (by omega) (by omega)
    by_cases hlast : ends = true ∧ i = (ps.length : Int) - 1
    · obtain ⟨he, hi⟩ := hlast
      subst he
      have hq : q = [] := List.eq_nil_of_length_eq_zero (by omega)
      subst hq
      have w2 : wrap64 ((ps.length : Int) - 1) = ps.length - 1 := w64 (by omega) (by omega)
      have w3 : wrap64 ((s.size : Int) - (p.size : Int)) = s.size - p.size := w64 (by omega) (by omega)
      have hm := mat_last (x := L p) (s := (L s).drop a.toNat) (hno p hpm)
      have hrest : rest true (List.map L [p]) ((L s).drop a.toNat) = mat (42 :: L p) ((L s).drop a.toNat) := by
        unfold rest; simp [sjoin]
      rw [hrest]
      rw [List.length_drop, L_length, L_length, List.drop_drop] at hm
      by_cases hge : (s.size : Int) - p.size ≥ a
      · refine Ev.step (f := fun _ => some ((s.extract ((s.size : Int) - p.size).toNat s.size).toList == p.toList)) (fun k => ?_) (Ev.const ?_)
        · simp only [spec_l2Has.l0]
          rw [if_pos hlt, if_pos trivial, w2, if_pos hi, if_pos h0, hr, w3, if_pos hge, if_pos (by omega), if_pos (by omega)]
        · congr 1
          rw [beq_toList, Bool.eq_iff_iff, decide_eq_true_eq, hm, L_extract, ← hL, List.take_length, hL, show a.toNat + (s.size - a.toNat - p.size) = ((s.size : Int) - p.size).toNat by omega]
          exact ⟨fun h => ⟨by omega, h⟩, fun h => h.2⟩
      · have : mat (42 :: L p) ((L s).drop a.toNat) = false := by
          rw [Bool.eq_false_iff]; intro h; have := (hm.mp h).1; omega
        rw [this]
        refine Ev.step (f := fun _ => some false) (fun k => ?_) (Ev.const rfl)
        simp only [spec_l2Has.l0]
        rw [if_pos hlt, if_pos trivial, w2, if_pos hi, if_pos h0, hr, w3, if_neg hge]
    · obtain ⟨v, hv, hvr⟩ := find_loop s p (by omega) (by omega) (s.size + 1) a ha (by omega) (by omega)
      /- what the loop asks -/
      have enter : ∀ r, Ev (fun k => (spec_l2Find.f k s p a).bind fun t => if t < 0 then some false else spec_l2Has.l0 k s ends ps (wrap64 (t + (p.size : Int))) (i + 1)) r → Ev (fun k => spec_l2Has.l0 k s ends ps a i) r := by
        intro r h
        refine Ev.step (fun k => ?_) h
        simp only [spec_l2Has.l0]
        rw [if_pos hlt, hr, w1]
        cases ends with
        | true =>
          rw [if_pos rfl, w64 (x := (ps.length : Int) - 1) (by omega) (by omega), if_neg (fun e => hlast ⟨rfl, e⟩), if_pos h0]
        | false => rw [if_neg (by simp), if_pos h0]
      have hv' : Ev (fun k => spec_l2Find.f k s p a) v := by simpa [spec_l2Find.f] using hv
      have hshape : ∃ u, rest ends (List.map L (p :: q)) ((L s).drop a.toNat) = mat (42 :: (L p ++ 42 :: u)) ((L s).drop a.toNat) ∧ ∀ t, rest ends (List.map L q) t = mat (42 :: u) t := by
        unfold rest
        cases ends with
        | false =>
          simp only [Bool.false_eq_true, if_false, List.map_cons, sjoin]
          rcases q with _ | ⟨y, q⟩
          · exact ⟨[], by simp [sjoin], fun t => by simp [sjoin]⟩
          · refine ⟨L y ++ sjoin (List.map L q) ++ [42], by simp [sjoin], fun t => by simp [sjoin]⟩
        | true =>
          simp only [if_true, List.map_cons, sjoin]
          rcases q with _ | ⟨y, q⟩
          · exact absurd ⟨rfl, by simp at hql; omega⟩ hlast
          · exact ⟨L y ++ sjoin (List.map L q), by simp [sjoin], fun t => by simp [sjoin]⟩
      obtain ⟨u, hu1, hu2⟩ := hshape
      rw [hu1]
      rcases hvr with ⟨hv1, hno'⟩ | ⟨e1, e2, e3, e4⟩
      · have : mat (42 :: (L p ++ 42 :: u)) ((L s).drop a.toNat) = false := mat_nowhere (hno p hpm) (fun j hj hp => by
          rw [List.length_drop, L_length] at hj
          rw [List.drop_drop] at hp
          exact hno' (a.toNat + j) (by omega) (by omega) hp)
        rw [this]
        exact enter _ (Ev.bind hv' (Ev.pos (by omega) (Ev.const rfl)))
      · have hf := mat_first (q := u) (s := (L s).drop a.toNat) (hno p hpm) (k := v.toNat - a.toNat) (by rw [List.drop_drop, show a.toNat + (v.toNat - a.toNat) = v.toNat by omega]; exact e3) (by rw [List.length_drop, L_length]; omega) (fun j hj hp => by
          rw [List.drop_drop] at hp
          exact e4 (a.toNat + j) (by omega) (by omega) hp)
        rw [hf, List.drop_drop, L_length, ← hu2]
        have I := ih (i + 1) (v + p.size) (by omega) (by omega) (by omega) (by omega) (by omega)
        rw [hn] at I
        refine enter _ (Ev.bind hv' (Ev.neg (by omega) ?_))
        rw [w64 (x := v + p.size) (by omega) (by omega), show a.toNat + (v.toNat - a.toNat + p.size) = (v + (p.size : Int)).toNat by omega]
        exact I

theorem rest_has (ends : Bool) (body : T) (x : T) (xs : List T) (hsp : splitT 42 body = x :: xs) (t : T) : (if ends = true then mat body t else mat (body ++ [42]) t) = (decide (x <+: t) && rest ends xs (t.drop x.length)) := by
  have hb := splitT_back 42 body hsp
  rw [← sjoin_eq] at hb
  have hx : (42 : Int) ∉ x := splitT_no x (by rw [hsp]; simp)
  unfold rest
  cases ends with
  | true =>
    rw [if_pos rfl, if_pos rfl, hb, Bool.eq_iff_iff, Bool.and_eq_true, decide_eq_true_eq]
    exact mat_pre hx
  | false =>
    rw [if_neg (by simp), if_neg (by simp), hb, List.append_assoc, Bool.eq_iff_iff, Bool.and_eq_true, decide_eq_true_eq]
    exact mat_pre hx

theorem spec_has (p s : ByteArray) (h1 : 1 ≤ p.size) (h16 : p.size ≤ 16) (hs : s.size ≤ 60) : Ev (fun k => spec_l2Has.f k p s) (has (L p) (L s)) := by
  have hL := L_length s
  have hLp := L_length p
  have w1 : wrap64 ((p.size : Int) - 1) = p.size - 1 := w64 (by omega) (by omega)
  have hlast : (L p).getLast? = some (bt p ((p.size : Int) - 1)) := by
    obtain ⟨b, q, hbr⟩ := drop_lt (l := L p) (i := ((p.size : Int) - 1).toNat) (by omega)
    have hb := bt_get hbr
    have hq : q = [] := by
      have := congrArg List.length hbr
      simp at this
      exact List.eq_nil_of_length_eq_zero (by omega)
    rw [hb]
    have : L p = (L p).take ((p.size : Int) - 1).toNat ++ [b] := by
      conv => lhs; rw [← List.take_append_drop ((p.size : Int) - 1).toNat (L p), hbr, hq]
    rw [this]; simp
  /- behind the end's sign -/
  have tail : ∀ (ends : Bool) (b : ByteArray) (ps : List ByteArray), b.size ≤ 16 → ps.map L = splitT 42 (L b) →
      Ev (fun k => if 0 < (ps.length : Int) then (if ((rdOf ByteArray.empty ps 0).size : Int) > (s.size : Int) then (some false) else (if 0 ≤ ((rdOf ByteArray.empty ps 0).size : Int) then (if ((rdOf ByteArray.empty ps 0).size : Int) ≤ (s.size : Int) then (if (s.extract 0 (((rdOf ByteArray.empty ps 0).size : Int) : Int).toNat).toList = (rdOf ByteArray.empty ps 0).toList then (spec_l2Has.l0 k s ends ps ((rdOf ByteArray.empty ps 0).size : Int) 1) else (some false)) else (none)) else (none))) else (none))
        (if ends = true then mat (L b) (L s) else mat (L b ++ [42]) (L s)) := by
    intro ends b ps hb hps
    rcases ps with _ | ⟨x, xs⟩
    · exact absurd hps.symm (splitT_ne 42 (L b))
    have hsp : splitT 42 (L b) = L x :: xs.map L := hps.symm
    have hlen : (x :: xs).length ≤ 17 := by
      have := congrArg List.length hps
      rw [List.length_map] at this
      have h2 := splitT_len 42 (L b)
      rw [L_length] at h2; omega
    have hno : ∀ y ∈ x :: xs, (42 : Int) ∉ L y := fun y hy => splitT_no (L y) (by rw [← hps]; exact List.mem_map_of_mem hy)
    have hsz : ∀ y ∈ x :: xs, y.size ≤ 100 := by
      intro y hy
      have hm : L y ∈ splitT 42 (L b) := by rw [← hps]; exact List.mem_map_of_mem hy
      have : ∀ (l : T) (z : T), z ∈ splitT 42 l → z.length ≤ l.length := by
        intro l
        induction l with
        | nil => intro z hz; simp [splitT] at hz; subst hz; simp
        | cons c l ih =>
          intro z hz
          simp only [splitT] at hz
          split at hz
          · rcases List.mem_cons.mp hz with rfl | hz
            · simp
            · have := ih z hz; simp; omega
          · rcases hs : splitT 42 l with _ | ⟨y, ys⟩
            · exact absurd hs (splitT_ne 42 l)
            · rw [hs] at hz ih
              simp only [List.headD_cons, List.tail_cons] at hz
              rcases List.mem_cons.mp hz with rfl | hz
              · have := ih y (by simp); simp; omega
              · have := ih z (by simp [hz]); simp; omega
      have := this _ _ hm
      rw [L_length, L_length] at this; omega
    have h0 : rdOf ByteArray.empty (x :: xs) 0 = x := rfl
    rw [rest_has ends (L b) (L x) (xs.map L) hsp, h0]
    refine Ev.pos (by simp) ?_
    by_cases hgt : (x.size : Int) > s.size
    · have : decide (L x <+: L s) = false := decide_eq_false (fun h => by have := h.length_le; rw [L_length, L_length] at this; omega)
      rw [this, Bool.false_and]
      exact Ev.pos hgt (Ev.const rfl)
    refine Ev.neg hgt (Ev.pos (by omega) (Ev.pos (by omega) ?_))
    have hpi := piece s x 0 (by omega) (by omega)
    simp only [Int.zero_add, Int.toNat_zero, List.drop_zero] at hpi
    by_cases hpre : L x <+: L s
    · rw [decide_eq_true hpre, Bool.true_and]
      refine Ev.pos (hpi.mpr hpre) ?_
      have := has_loop s hs ends (x :: xs) (by omega) hno hsz 100 1 x.size (by omega) (by simp; omega) (by omega) (by omega) (by omega)
      simpa [L_length] using this
    · rw [decide_eq_false hpre, Bool.false_and]
      exact Ev.neg (fun h => hpre (hpi.mp h)) (Ev.const rfl)
  unfold spec_l2Has.f
  rw [w1]
  refine Ev.pos (by omega) (Ev.pos (by omega) ?_)
  by_cases h36 : bt p ((p.size : Int) - 1) = 36
  · have he : endsT (L p) = true := by unfold endsT; rw [hlast, h36]; simp
    have hb : L (p.extract 0 ((p.size : Int) - 1).toNat) = bodyT (L p) := by
      unfold bodyT; rw [if_pos he, L_extract, List.drop_zero, List.dropLast_eq_take, hLp]; congr 1; omega
    have hbs : (p.extract 0 ((p.size : Int) - 1).toNat).size ≤ 16 := by rw [ByteArray.size_extract]; omega
    obtain ⟨ps, hps, hpm⟩ := split_ev (s := p.extract 0 ((p.size : Int) - 1).toNat) 42 (by omega)
    have T := tail true _ ps hbs hpm
    refine Ev.pos h36 (Ev.pos (by omega) (Ev.bind hps ?_))
    unfold has
    rw [he, if_pos rfl]
    rw [if_pos rfl, hb] at T
    rw [h36]
    exact T
  · have he : endsT (L p) = false := by
      unfold endsT; rw [hlast]; simp [h36]
    have hb : bodyT (L p) = L p := by unfold bodyT; rw [he]; rfl
    obtain ⟨ps, hps, hpm⟩ := split_ev (s := p) 42 (by omega)
    have T := tail false _ ps h16 hpm
    refine Ev.neg h36 (Ev.bind hps ?_)
    unfold has
    rw [he, hb, if_neg (by simp)]
    rw [if_neg (by simp)] at T
    have e : (bt p ((p.size : Int) - 1) == 36) = false := beq_eq_false_iff_ne.mpr h36
    rw [e]
    exact T

end Go.Proofs.Ytmkncihmgbjgnaa.FindF
