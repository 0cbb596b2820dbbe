/- Great letters of a house are read as small ones. Condition: none. -/
-- Cut down by a program of this session (wip/tools/prune.py) to what its claim can name.
import Derived.Test.YtochmlkladpfgaaDoorPx6
import Derived.Test.YtochmlkladpfgaaDoorReadC
import Derived.Test.YtochmlkladpfgaaDoorDrawT
import Derived.Test.YtochmlkladpfgaaDoorAddrQ
namespace Go.Proofs.YtochmlkladpfgaaDoor.Pure
open Go hiding stepT
open Go.RowKit Go.Proofs.YtochmlkladpfgaaDoor.P Go.Proofs.YtochmlkladpfgaaDoor.Lib Go.Proofs.YtochmlkladpfgaaDoor.Draw Go.Proofs.YtochmlkladpfgaaDoor.AddrP Go.Proofs.YtochmlkladpfgaaDoor.AddrF Go.Proofs.YtochmlkladpfgaaDoor.AddrR Go.Proofs.YtochmlkladpfgaaDoor.DrawA Go.Proofs.YtochmlkladpfgaaDoor.ReadB Go.Proofs.YtochmlkladpfgaaDoorW.PrintWords Go.Proofs.YtochmlkladpfgaaDoorW.PrintLast
set_option linter.unusedVariables false
set_option linter.unusedSimpArgs false

theorem gr_is (l:List Int):laws_FnAddrGreat.gr l = greatT l:=by
 induction l with
 | nil=>rfl
 | cons b r ih =>
  show (if b = 47 ∨ b = 63 ∨ b = 35 then b :: r else (if 97 ≤ b ∧ b ≤ 122 then b - 32 else b) :: laws_FnAddrGreat.gr r) = if stops b then b :: r else greatOf b :: greatT r
  by_cases c:b = 47 ∨ b = 63 ∨ b = 35
  ·rw [if_pos c,if_pos (show stops b = true by unfold stops;rcases c with rfl|rfl|rfl <;> rfl)]
  ·rw [if_neg c,if_neg (show ¬ stops b = true by unfold stops;simp only [Bool.or_eq_true,beq_iff_eq];omega),ih];rfl
theorem great_range (l:List Int) (h:∀ x ∈ l,0 ≤ x ∧ x ≤ 255):∀ x ∈ greatT l,0 ≤ x ∧ x ≤ 255:=by
 induction l with
 | nil=>intro x hx;cases hx
 | cons b r ih =>
  intro x hx
  unfold greatT at hx
  split at hx
  ·exact h x hx
  ·rcases List.mem_cons.mp hx with rfl|hx
   ·have:=h b List.mem_cons_self
    unfold greatOf;split <;> omega
   ·exact ih (fun y hy=>h y (List.mem_cons_of_mem _ hy)) x hx
theorem great_L {t:ByteArray} {rest:List Int} (h:L t = 47 :: 47 :: rest):L (laws_FnAddrGreat.great t) = 47 :: 47 :: greatT rest:=by
 have hr:=L_range t
 unfold laws_FnAddrGreat.great
 rw [show bytesOf t = 47 :: 47 :: rest from h,gr_is]
 show L (strOfNums (47 :: 47 :: greatT rest)) = _
 rw [h] at hr
 apply L_strOfNums
 intro x hx
 rcases List.mem_cons.mp hx with rfl|hx
 ·omega
 rcases List.mem_cons.mp hx with rfl|hx
 ·omega
 ·exact great_range rest (fun y hy=>hr y (List.mem_cons_of_mem _ (List.mem_cons_of_mem _ hy))) x hx
theorem FnAddrGreat:∀ (l0:List Int),l0.length ≤ maxLen → l0.length * 1 ≤ 140737488351232 → (∀ x ∈ l0,(Lit.int .u8 x).wf = true) → ∃ k,laws_FnAddrGreat.f k l0 = some true:=by
 intro l hm hb hw
 apply Ev.rounds
 unfold laws_FnAddrGreat.f
 by_cases c:(l.length:Int) > 1048576
 ·exact Ev.pos c (Ev.const rfl)
 obtain ⟨t,hd,hz⟩:=DrawT.raw_ev hw
 obtain ⟨r,hs,hi,ha,_,_,hl,_⟩:=both_ev (s:=t) (by omega)
 have S:=self_ev (h:=r.1) (l:=r.2.1) (b:=r.2.2.1) (q:=r.2.2.2.1) (by omega)
 refine Ev.neg c (Ev.bind hd (Ev.pos (show t.size ≤ 1000000 by omega) (Ev.bind hs (Ev.bind hi (Ev.pos rfl (Ev.bind S (Ev.pos rfl ?_)))))))
 by_cases h5:r.2.2.2.2 = true
 rotate_left
 ·exact Ev.neg h5 (Ev.const rfl)
 cases hj:AddrP.read (L t) with
 | none =>
  rw [hj] at ha
  rw [show r = noAd from ha] at h5
  exact absurd h5 (by decide)
 | some a =>
  obtain ⟨rest,hrest⟩:=read_strokes hj
  obtain ⟨r',hr',ha'⟩:=ReadI.read_ev (laws_FnAddrGreat.great t)
  rw [great_L hrest,read_great,← hrest] at ha'
  obtain rfl:=ha'.one ha
  exact Ev.pos h5 (Ev.bind hr' (Ev.pos h5 S))

end Go.Proofs.YtochmlkladpfgaaDoor.Pure
