/- The parts of an address lead somewhere; so do those of a drawn one. Condition: none. -/
import Derived.Test.YtochmlkladpfgaaPx13
import Derived.Test.YtochmlkladpfgaaPx20
import Derived.Test.YtochmlkladpfgaaPx21
import Derived.Test.YtochmlkladpfgaaPx4
import Derived.Test.YtochmlkladpfgaaPx6
import Derived.Test.YtochmlkladpfgaaDrawA
import Derived.Test.YtochmlkladpfgaaAddrI
import Derived.Test.YtochmlkladpfgaaPathI
import Derived.Test.YtochmlkladpfgaaTextsF
namespace Go.Proofs.Ytochmlkladpfgaa.Pure
open Go hiding stepT
open Go.RowKit Go.Proofs.Ytochmlkladpfgaa.P Go.Proofs.Ytochmlkladpfgaa.Lib Go.Proofs.Ytochmlkladpfgaa.Draw Go.Proofs.Ytochmlkladpfgaa.CutP Go.Proofs.Ytochmlkladpfgaa.PathP Go.Proofs.Ytochmlkladpfgaa.AddrP Go.Proofs.Ytochmlkladpfgaa.AddrF Go.Proofs.Ytochmlkladpfgaa.DrawA Go.Proofs.YtochmlkladpfgaaW.PrintWords Go.Proofs.YtochmlkladpfgaaW.PrintLast
open Go.Proofs.Ytochmlkladpfgaa.EscP (escN)
set_option linter.unusedVariables false
set_option linter.unusedSimpArgs false

theorem drawn {l : List Int} (hw : ∀ x ∈ l, (Lit.int .u8 x).wf = true) : ∃ h ps b q, Ev (fun k => spec_DrawAddrOk.f k l) (h, ps, b, q) ∧ Small h ps q := by
  obtain ⟨l', ho, hc⟩ := open_ev hw
  obtain ⟨h, ps, b, q, p', he, hs, _⟩ := drawn_struct hc (p := 0) (by omega) (by omega)
  refine ⟨h, ps, b, q, ?_, hs⟩
  unfold spec_DrawAddrOk.f
  exact Ev.bind0 ho (Ev.bind he (Ev.const rfl))
theorem esc_norm {p : ByteArray} (hn : escN (L p) = some (L p)) : Ev (fun k => impl_EscNorm.f k p) (p, true) := by
  obtain ⟨r, hr, hi⟩ := EscI.impl_ev p
  unfold EscF.IsNorm at hi
  rw [hn] at hi
  have : r = (p, true) := Prod.ext (L_inj hi.2) hi.1
  rw [← this]; exact hr
theorem way_of {p : ByteArray} (h : wayT (L p) = true) : PathP.Way p := by
  unfold wayT at h
  simp only [Bool.and_eq_true, Bool.not_eq_true'] at h
  exact ⟨fun hi => by
    rw [(idle_iff p).mpr hi] at h
    exact absurd h.1 (by simp), fun hu => by
    rw [(up_iff p).mpr hu] at h
    exact absurd h.2 (by simp)⟩
theorem parts_loop (h : ByteArray) (ps : List ByteArray) (b : Bool) (q : ByteArray) (hk : Ok (adOf h ps b q)) (d : Nat) : ∀ i : Int, 0 ≤ i → i ≤ ps.length → (ps.length : Int) - i ≤ d →
    Ev (fun k => laws_FnAddrParts.l0 k i h ps b q) true := by
  have hmany : ps.length ≤ 5 := by have := hk.p5; simpa [adOf] using this
  have hend : ∀ i : Int, i = ps.length → Ev (fun k => laws_FnAddrParts.l0 k i h ps b q) true := by
    intro i hi
    have hc : clean ps = ps := clean_of_ways fun p hp => way_of (hk.way (L p) (List.mem_map_of_mem hp))
    have I := PathI.impl_ev (x := ps) (by omega)
    rw [hc] at I
    refine Ev.step (f := fun k => ((impl_PathClean.f k ps).bind fun t397 => ((laws_lpTexts.f k t397 ps).bind fun t400 => (if t400 = true then (some (decide ((ps.length : Int) ≤ 5))) else (some false))))) (fun k => by simp only [laws_FnAddrParts.l0]; rw [if_neg (by omega)]) ?_
    exact Ev.bind I (Ev.bind (PathF.texts_ev (by omega)) (Ev.pos (by simp) (Ev.const (by simp; omega))))
  induction d with
  | zero => intro i h0 h1 hd; exact hend i (by omega)
  | succ d ih =>
    intro i h0 h1 hd
    by_cases hlt : i < (ps.length : Int)
    rotate_left
    · exact hend i (by omega)
    obtain ⟨p, t, hpt⟩ := drop_lt (l := ps) (i := i.toNat) (by omega)
    have hp : rdOf ByteArray.empty ps i = p := rdOf_get hpt
    have hin : p ∈ ps := List.drop_subset i.toNat ps (by rw [hpt]; exact List.mem_cons_self)
    have w1 : wrap64 (i + 1) = i + 1 := w64 (by omega) (by omega)
    refine Ev.step (f := fun k => ((impl_EscNorm.f k p).bind fun bt394 => (if bt394.2 = true then (if bt394.1.toList = p.toList then (laws_FnAddrParts.l0 k (i + 1) h ps b q) else (some false)) else (some false)))) (fun k => by simp only [laws_FnAddrParts.l0]; rw [if_pos hlt, if_pos h0, hp, w1]) ?_
    exact Ev.bind (esc_norm (hk.nrm (L p) (List.mem_map_of_mem hin))) (Ev.pos rfl (Ev.pos rfl (ih (i + 1) (by omega) (by omega) (by omega))))
theorem FnAddrParts : laws_FnAddrParts.Pure := by
  intro l hm hb hw
  apply Ev.rounds
  unfold laws_FnAddrParts.f
  by_cases c : (l.length : Int) > 1048576
  · exact Ev.pos c (Ev.const rfl)
  obtain ⟨h, ps, b, q, hd, s1, s2, s3⟩ := drawn hw
  have S := AddrF.ok_ev (h := h) (l := ps) (b := b) (q := q) (by omega) (by omega) (by omega)
  have I := AddrI.ok_ev (h := h) (l := ps) (b := b) (q := q) (by omega) (by omega) (by omega)
  refine Ev.neg c (Ev.bind hd (Ev.bind I (Ev.bind S (Ev.neg (by simp) ?_))))
  cases hok : ok (adOf h ps b q) with
  | false =>
    rw [hok] at S
    exact Ev.step (f := fun k => (spec_AddrOk.f k h ps b q).bind fun t392 => (some (false == t392))) (fun k => by simp only [laws_FnAddrParts.j0]; rw [if_pos (by simp)]) (Ev.bind S (Ev.const rfl))
  | true =>
    exact Ev.step (fun k => by simp only [laws_FnAddrParts.j0]; rw [if_neg (by simp)]) (parts_loop h ps b q ((ok_iff _).mp hok) ps.length 0 (by omega) (by omega) (by omega))

end Go.Proofs.Ytochmlkladpfgaa.Pure
