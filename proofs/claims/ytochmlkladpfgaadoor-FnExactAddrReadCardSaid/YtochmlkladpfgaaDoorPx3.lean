-- Written by a program of this session (patch_print.py over the kit's print; given texts in wip/given).
-- Cut down by a program of this session (wip/tools/prune.py) to what its claim can name.
import Derived.Test.YtochmlkladpfgaaDoorPx0
import Derived.Test.YtochmlkladpfgaaDoorPx2
namespace Go.Proofs.YtochmlkladpfgaaDoor.P
open Go.RowKit Go.Proofs.YtochmlkladpfgaaDoorW.PrintWords Go.Proofs.YtochmlkladpfgaaDoorW.PrintLast Go.Proofs.YtochmlkladpfgaaDoorW.PrintMore
attribute [local go_sem] max2_int min2_int max_two min_two max_three min_three max_four min_four   -- for this text's walks alone
set_option linter.unusedVariables false
set_option linter.unusedSimpArgs false
set_option maxHeartbeats 8000000
set_option maxRecDepth 100000

def impl_isHouse.f (k:Nat) (a0:ByteArray):Option (Bool):=if (a0.size:Int) ≥ 1 then (if (a0.size:Int) ≤ 5 then ((impl_allSmallLetters.f k a0).bind fun t112=>(some t112)) else (some false)) else (some false)
theorem impl_isHouse.mono:∀ a0 k,LeO (impl_isHouse.f k a0) (impl_isHouse.f (k + 1) a0):=by
 intro a0 k
 unfold impl_isHouse.f
 repeat' first
   | (with_reducible exact impl_allSmallLetters.mono _ _)
   | (with_reducible exact LeO.refl _)
   | (with_reducible exact LeO.none _)
   | (with_reducible refine LeO.ite ?_ ?_)
   | (with_reducible refine LeO.bind ?_ (fun _=>?_))
   | exact impl_allSmallLetters.mono _ _
   | exact LeO.none _
   | refine LeO.ite ?_ ?_
   | refine LeO.bind ?_ (fun _=>?_)
theorem impl_isHouse.calls (k:Nat) (a0:ByteArray) (r:Bool) (w:World) (h:impl_isHouse.f k a0 = some r) :
  Calls Tryd.prog 36 #[.string a0] w fun e w'=>e = .returned (.bool r) ∧ Drawn0 w w':=by
 have H:(if (a0.size:Int) ≥ 1 then (if (a0.size:Int) ≤ 5 then ((impl_allSmallLetters.f k a0).bind fun t112=>(some t112)) else (some false)) else (some false)) = some r:=h
 clear h
 by_cases c2:(a0.size:Int) ≥ 1
 ·rw [if_pos c2] at H
  have c2b0:decide (1 ≤ (a0.size:Int)) = true:=decide_eq_true c2
  have c2b1:decide (1 ≤ a0.size) = true:=decide_eq_true (by omega)
  clear c2
  by_cases c3:(a0.size:Int) ≤ 5
  ·rw [if_pos c3] at H
   have c3b0:decide ((a0.size:Int) ≤ 5) = true:=decide_eq_true c3
   have c3b1:decide (a0.size ≤ 5) = true:=decide_eq_true (by omega)
   clear c3
   replace H:=Option.bind_eq_some_iff.mp H
   obtain ⟨t112,A40,H⟩:=H
   replace H:(some t112) = some r:=H
   have A4:=Aside0.mk A40
   clear A40
   obtain rfl:=Option.some.inj H
   go_enter Tryd.func36,Tryd.ntmps36
   go_wp2_with (first|(go_at_call 51;(with_reducible refine (impl_allSmallLetters.calls k a0 t112 _ A4.out).mono ?_);rintro e w' ⟨rfl,⟨nd,rfl⟩⟩))
   go_ret
   exact ⟨by first|rfl|(simp;done)|(simp only [i64_w,i32_w];done)|(simp only [i64_w,i32_w];rfl)|(simp [*];done)|(simp [emp_bne,emp_beq];done),by repeat (first|exact Drawn0.refl _|apply Drawn0.step)⟩
  ·rw [if_neg c3] at H
   have c3b0:decide ((a0.size:Int) ≤ 5) = false:=decide_eq_false c3
   have c3b1:decide (a0.size ≤ 5) = false:=decide_eq_false (by omega)
   clear c3
   obtain rfl:=Option.some.inj H
   go_enter Tryd.func36,Tryd.ntmps36
   go_wp2
   go_ret
   exact ⟨by first|rfl|(simp;done)|(simp only [i64_w,i32_w];done)|(simp only [i64_w,i32_w];rfl)|(simp [*];done)|(simp [emp_bne,emp_beq];done),by repeat (first|exact Drawn0.refl _|apply Drawn0.step)⟩
 ·rw [if_neg c2] at H
  have c2b0:decide (1 ≤ (a0.size:Int)) = false:=decide_eq_false c2
  have c2b1:decide (1 ≤ a0.size) = false:=decide_eq_false (by omega)
  clear c2
  obtain rfl:=Option.some.inj H
  go_enter Tryd.func36,Tryd.ntmps36
  go_wp2
  go_ret
  exact ⟨by first|rfl|(simp;done)|(simp only [i64_w,i32_w];done)|(simp only [i64_w,i32_w];rfl)|(simp [*];done)|(simp [emp_bne,emp_beq];done),by repeat (first|exact Drawn0.refl _|apply Drawn0.step)⟩

/-- What a figure of sixteen is worth. -/
def impl_figureValue.f (a0:Int):Option (Int × Bool) :=
 if 0 ≤ a0 ∧ a0 ≤ 255 then some (if 48 ≤ a0 ∧ a0 ≤ 57 then (a0 - 48,true) else if 65 ≤ a0 ∧ a0 ≤ 70 then (a0 - 55,true) else if 97 ≤ a0 ∧ a0 ≤ 102 then (a0 - 87,true) else (0,false)) else none
def impl_figureValue.hex:ByteArray:=⟨#[48,49,50,51,52,53,54,55,56,57,65,66,67,68,69,70]⟩
/-- The figure at a place. -/
def impl_figureValue.fig (p:Nat):Nat:=if p < 10 then 48 + p else 55 + p
theorem impl_figureValue.decode (p:Nat) (h:p < 16):Utf8.decode impl_figureValue.hex p = (impl_figureValue.fig p,1):=by
 have hc:p = 0 ∨ p = 1 ∨ p = 2 ∨ p = 3 ∨ p = 4 ∨ p = 5 ∨ p = 6 ∨ p = 7 ∨ p = 8 ∨ p = 9 ∨ p = 10 ∨ p = 11 ∨ p = 12 ∨ p = 13 ∨ p = 14 ∨ p = 15:=by omega
 rcases hc with rfl|rfl|rfl|rfl|rfl|rfl|rfl|rfl|rfl|rfl|rfl|rfl|rfl|rfl|rfl|rfl <;> rfl
/-- The figure as it is looked for: a small letter is a great one. -/
def impl_figureValue.up (a0:Int):Int:=if 97 ≤ a0 ∧ a0 ≤ 102 then a0 - 32 else a0
theorem impl_figureValue.hit {a0:Int} {p:Nat} (h0:0 ≤ a0) (h1:a0 ≤ 255) (hp:p < 16) (h:(impl_figureValue.fig p:Int) = impl_figureValue.up a0):impl_figureValue.f a0 = some ((p:Int),true):=by
 unfold impl_figureValue.f
 rw [if_pos ⟨h0,h1⟩]
 unfold impl_figureValue.fig impl_figureValue.up at h
 congr 1
 repeat' split at h
 all_goals repeat' split
 all_goals first|(simp only [Prod.mk.injEq,and_true];omega)|(exfalso;omega)
theorem impl_figureValue.miss {a0:Int} (h0:0 ≤ a0) (h1:a0 ≤ 255) (h:∀ p:Nat,p < 16 → (impl_figureValue.fig p:Int) ≠ impl_figureValue.up a0):impl_figureValue.f a0 = some (0,false):=by
 unfold impl_figureValue.f
 rw [if_pos ⟨h0,h1⟩]
 unfold impl_figureValue.fig impl_figureValue.up at h
 by_cases c1:48 ≤ a0 ∧ a0 ≤ 57
 ·exfalso
  have:=h (a0 - 48).toNat (by omega)
  rw [if_pos (by omega),if_neg (by omega)] at this;omega
 by_cases c2:65 ≤ a0 ∧ a0 ≤ 70
 ·exfalso
  have:=h (a0 - 55).toNat (by omega)
  rw [if_neg (by omega),if_neg (by omega)] at this;omega
 by_cases c3:97 ≤ a0 ∧ a0 ≤ 102
 ·exfalso
  have:=h (a0 - 87).toNat (by omega)
  rw [if_neg (by omega),if_pos c3] at this;omega
 rw [if_neg c1,if_neg c2,if_neg c3]
theorem impl_figureValue.fig_bd (p:Nat) (h:p < 16):48 ≤ impl_figureValue.fig p ∧ impl_figureValue.fig p ≤ 70:=by
 unfold impl_figureValue.fig;split <;> omega
def impl_figureValue.Missed (a0:Int) (n:Nat):Prop:=∀ p:Nat,p < n → (impl_figureValue.fig p:Int) ≠ impl_figureValue.up a0
theorem impl_figureValue.below (w:World) (p:Nat):Below w.heap.size w (w.iter impl_figureValue.hex p):=below_alloc (Below.refl _ _) _
theorem impl_figureValue.calls (a0:Int) (r1:Int) (r2:Bool) (w:World) (h:impl_figureValue.f a0 = some (r1,r2)) :
  Calls Tryd.prog 84 #[.int .u8 a0] w fun e w'=>e = .returned (.tuple #[.int .i64 r1, .bool r2]) ∧ Below w.heap.size w w':=by
 have hb:0 ≤ a0 ∧ a0 ≤ 255:=by
  unfold impl_figureValue.f at h
  split at h
  ·assumption
  ·cases h
 obtain ⟨h0,h1⟩:=hb
 have HH:=Aside0.mk h
 clear h
 have HX:=Aside0.mk (fun (p:Nat) (ty:TypeId) (hp:p < impl_figureValue.hex.size)=>run_next_any (P:=Tryd.prog) w impl_figureValue.hex p ty hp)
 have HE:=Aside0.mk (fun (p:Nat) (ty:TypeId) (hp:¬ p < impl_figureValue.hex.size)=>run_next_end (P:=Tryd.prog) w impl_figureValue.hex p ty hp)
 by_cases c:97 ≤ a0 ∧ a0 ≤ 102
 ·obtain ⟨c1,c2⟩:=c
  have HU:=Aside0.mk (show impl_figureValue.up a0 = a0 - 32 by unfold impl_figureValue.up;rw [if_pos ⟨c1,c2⟩])
  go_enter Tryd.func84,Tryd.ntmps84
  go_wp2
  go_loopw [] (fun w'=>∃ p:Nat,p ≤ 16 ∧ w' = w.iter impl_figureValue.hex p ∧ Aside0 (impl_figureValue.Missed a0 p)) (fun w'=>16 - w'.iterPos w.heap.size)
  case atStart=>exact ⟨0,Nat.zero_le _,rfl,⟨fun p hp=>absurd hp (by omega)⟩⟩
  case round =>
   obtain ⟨p,hp,rfl,HM⟩:=hrel
   by_cases hlt:p < 16
   ·have hx:∀ ty,(Instr.next (.pointer (some ⟨w.heap.size,0,none⟩)) true ty).run Tryd.prog (w.iter impl_figureValue.hex p) = .ok (.tuple #[.bool true, .int .i64 p, .int .i32 (impl_figureValue.fig p)]) (w.iter impl_figureValue.hex (p + 1)):=fun ty=>by
     rw [HX.out p ty hlt,impl_figureValue.decode p hlt]
    have hf:=impl_figureValue.fig_bd p hlt
    by_cases he:(impl_figureValue.fig p:Int) = a0 - 32
    ·have hr:=HH.out
     rw [impl_figureValue.hit h0 h1 hlt (he.trans HU.out.symm)] at hr
     obtain ⟨rfl,rfl⟩:=Prod.mk.inj (Option.some.inj hr)
     have hd:((impl_figureValue.fig p:Int) == a0 - 32) = true:=beq_iff_eq.mpr he
     clear he hr
     go_wp2
     go_ret2
     exact ⟨rfl,impl_figureValue.below w _⟩
    ·have hd:((impl_figureValue.fig p:Int) == a0 - 32) = false:=beq_eq_false_iff_ne.mpr he
     have HM2:=Aside0.mk (show impl_figureValue.Missed a0 (p + 1) from fun q hq=>by
      rcases Nat.lt_or_ge q p with hqp|hqp
      ·exact HM.out q hqp
      ·obtain rfl:q = p:=by omega
       rw [HU.out];exact he)
     clear he
     go_wp2
     go_roundw
     case rel=>exact ⟨p + 1,by omega,rfl,HM2⟩
     case measure=>simp;omega
   ·obtain rfl:p = 16:=by omega
    have hx:=fun ty=>HE.out 16 ty (by decide)
    have hr:=HH.out
    rw [impl_figureValue.miss h0 h1 HM.out] at hr
    obtain ⟨rfl,rfl⟩:=Prod.mk.inj (Option.some.inj hr)
    clear hr
    go_wp2
    go_ret2
    exact ⟨rfl,impl_figureValue.below w _⟩
 by_cases c1:97 ≤ a0
 ·have c2:decide (a0 ≤ 102) = false:=decide_eq_false (fun h=>c ⟨c1,h⟩)
  have HU:=Aside0.mk (show impl_figureValue.up a0 = a0 by unfold impl_figureValue.up;rw [if_neg c])
  clear c
  go_enter Tryd.func84,Tryd.ntmps84
  go_wp2
  go_loopw [] (fun w'=>∃ p:Nat,p ≤ 16 ∧ w' = w.iter impl_figureValue.hex p ∧ Aside0 (impl_figureValue.Missed a0 p)) (fun w'=>16 - w'.iterPos w.heap.size)
  case atStart=>exact ⟨0,Nat.zero_le _,rfl,⟨fun p hp=>absurd hp (by omega)⟩⟩
  case round =>
   obtain ⟨p,hp,rfl,HM⟩:=hrel
   by_cases hlt:p < 16
   ·have hx:∀ ty,(Instr.next (.pointer (some ⟨w.heap.size,0,none⟩)) true ty).run Tryd.prog (w.iter impl_figureValue.hex p) = .ok (.tuple #[.bool true, .int .i64 p, .int .i32 (impl_figureValue.fig p)]) (w.iter impl_figureValue.hex (p + 1)):=fun ty=>by
     rw [HX.out p ty hlt,impl_figureValue.decode p hlt]
    have hf:=impl_figureValue.fig_bd p hlt
    by_cases he:(impl_figureValue.fig p:Int) = a0
    ·have hr:=HH.out
     rw [impl_figureValue.hit h0 h1 hlt (he.trans HU.out.symm)] at hr
     obtain ⟨rfl,rfl⟩:=Prod.mk.inj (Option.some.inj hr)
     have hd:((impl_figureValue.fig p:Int) == a0) = true:=beq_iff_eq.mpr he
     clear he hr
     go_wp2
     go_ret2
     exact ⟨rfl,impl_figureValue.below w _⟩
    ·have hd:((impl_figureValue.fig p:Int) == a0) = false:=beq_eq_false_iff_ne.mpr he
     have HM2:=Aside0.mk (show impl_figureValue.Missed a0 (p + 1) from fun q hq=>by
      rcases Nat.lt_or_ge q p with hqp|hqp
      ·exact HM.out q hqp
      ·obtain rfl:q = p:=by omega
       rw [HU.out];exact he)
     clear he
     go_wp2
     go_roundw
     case rel=>exact ⟨p + 1,by omega,rfl,HM2⟩
     case measure=>simp;omega
   ·obtain rfl:p = 16:=by omega
    have hx:=fun ty=>HE.out 16 ty (by decide)
    have hr:=HH.out
    rw [impl_figureValue.miss h0 h1 HM.out] at hr
    obtain ⟨rfl,rfl⟩:=Prod.mk.inj (Option.some.inj hr)
    clear hr
    go_wp2
    go_ret2
    exact ⟨rfl,impl_figureValue.below w _⟩
 ·have c2:decide (97 ≤ a0) = false:=decide_eq_false c1
  have HU:=Aside0.mk (show impl_figureValue.up a0 = a0 by unfold impl_figureValue.up;rw [if_neg c])
  clear c c1
  go_enter Tryd.func84,Tryd.ntmps84
  go_wp2
  go_loopw [] (fun w'=>∃ p:Nat,p ≤ 16 ∧ w' = w.iter impl_figureValue.hex p ∧ Aside0 (impl_figureValue.Missed a0 p)) (fun w'=>16 - w'.iterPos w.heap.size)
  case atStart=>exact ⟨0,Nat.zero_le _,rfl,⟨fun p hp=>absurd hp (by omega)⟩⟩
  case round =>
   obtain ⟨p,hp,rfl,HM⟩:=hrel
   by_cases hlt:p < 16
   ·have hx:∀ ty,(Instr.next (.pointer (some ⟨w.heap.size,0,none⟩)) true ty).run Tryd.prog (w.iter impl_figureValue.hex p) = .ok (.tuple #[.bool true, .int .i64 p, .int .i32 (impl_figureValue.fig p)]) (w.iter impl_figureValue.hex (p + 1)):=fun ty=>by
     rw [HX.out p ty hlt,impl_figureValue.decode p hlt]
    have hf:=impl_figureValue.fig_bd p hlt
    by_cases he:(impl_figureValue.fig p:Int) = a0
    ·have hr:=HH.out
     rw [impl_figureValue.hit h0 h1 hlt (he.trans HU.out.symm)] at hr
     obtain ⟨rfl,rfl⟩:=Prod.mk.inj (Option.some.inj hr)
     have hd:((impl_figureValue.fig p:Int) == a0) = true:=beq_iff_eq.mpr he
     clear he hr
     go_wp2
     go_ret2
     exact ⟨rfl,impl_figureValue.below w _⟩
    ·have hd:((impl_figureValue.fig p:Int) == a0) = false:=beq_eq_false_iff_ne.mpr he
     have HM2:=Aside0.mk (show impl_figureValue.Missed a0 (p + 1) from fun q hq=>by
      rcases Nat.lt_or_ge q p with hqp|hqp
      ·exact HM.out q hqp
      ·obtain rfl:q = p:=by omega
       rw [HU.out];exact he)
     clear he
     go_wp2
     go_roundw
     case rel=>exact ⟨p + 1,by omega,rfl,HM2⟩
     case measure=>simp;omega
   ·obtain rfl:p = 16:=by omega
    have hx:=fun ty=>HE.out 16 ty (by decide)
    have hr:=HH.out
    rw [impl_figureValue.miss h0 h1 HM.out] at hr
    obtain ⟨rfl,rfl⟩:=Prod.mk.inj (Option.some.inj hr)
    clear hr
    go_wp2
    go_ret2
    exact ⟨rfl,impl_figureValue.below w _⟩

def impl_signByte.f (a0:ByteArray) (a1:Int):Option (Int × Bool):=if (wrap64 ((a0.size:Int) - a1)) < 3 then (some (0,false)) else (if 0 ≤ (wrap64 (a1 + 1)) then (if (wrap64 (a1 + 1)) < (a0.size:Int) then ((impl_figureValue.f (bt a0 (wrap64 (a1 + 1)))).bind fun bt113=>(if 0 ≤ (wrap64 (a1 + 2)) then (if (wrap64 (a1 + 2)) < (a0.size:Int) then ((impl_figureValue.f (bt a0 (wrap64 (a1 + 2)))).bind fun bt115=>(if bt113.2 = true then (if bt115.2 = true then (some ((wrap64 ((wrap64 (bt113.1 * 16)) + bt115.1)) % 256,true)) else (some (0,false))) else (some (0,false)))) else (none)) else (none))) else (none)) else (none))
theorem impl_signByte.calls (a0:ByteArray) (a1:Int) (r1:Int) (r2:Bool) (w:World) (h:impl_signByte.f a0 a1 = some (r1,r2)) :
  Calls Tryd.prog 68 #[.string a0, .int .i64 a1] w fun e w'=>e = .returned (.tuple #[.int .u8 r1, .bool r2]) ∧ Below w.heap.size w w':=by
 have HB:=Aside0.mk (Below.refl w.heap.size w)
 have H:(if (wrap64 ((a0.size:Int) - a1)) < 3 then (some (0,false)) else (if 0 ≤ (wrap64 (a1 + 1)) then (if (wrap64 (a1 + 1)) < (a0.size:Int) then ((impl_figureValue.f (bt a0 (wrap64 (a1 + 1)))).bind fun bt113=>(if 0 ≤ (wrap64 (a1 + 2)) then (if (wrap64 (a1 + 2)) < (a0.size:Int) then ((impl_figureValue.f (bt a0 (wrap64 (a1 + 2)))).bind fun bt115=>(if bt113.2 = true then (if bt115.2 = true then (some ((wrap64 ((wrap64 (bt113.1 * 16)) + bt115.1)) % 256,true)) else (some (0,false))) else (some (0,false)))) else (none)) else (none))) else (none)) else (none))) = some (r1,r2):=h
 clear h
 by_cases c3:(wrap64 ((a0.size:Int) - a1)) < 3
 ·rw [if_pos c3] at H
  have c3b0:decide ((wrap64 ((a0.size:Int) - a1)) < 3) = true:=decide_eq_true c3
  clear c3
  simp only [Option.some.injEq,Prod.mk.injEq] at H
  obtain ⟨rfl,rfl⟩:=H
  go_enter Tryd.func68,Tryd.ntmps68
  go_wp2
  go_ret2
  exact ⟨by first|rfl|(simp <;> rfl)|(simp [*] <;> rfl),by repeat (first|(with_reducible first|exact HB.out|apply below_alloc|apply pw_below_drewN|apply below_drew1)|exact HB.out)⟩
 ·rw [if_neg c3] at H
  have c3b0:decide ((wrap64 ((a0.size:Int) - a1)) < 3) = false:=decide_eq_false c3
  clear c3
  obtain ⟨ji4,hji4⟩:∃ j_:Int,(wrap64 (a1 + 1)) = j_:=⟨_,rfl⟩
  replace H:(if 0 ≤ (ji4) then (if (ji4) < (a0.size:Int) then ((impl_figureValue.f (bt a0 (ji4))).bind fun bt113=>(if 0 ≤ (wrap64 (a1 + 2)) then (if (wrap64 (a1 + 2)) < (a0.size:Int) then ((impl_figureValue.f (bt a0 (wrap64 (a1 + 2)))).bind fun bt115=>(if bt113.2 = true then (if bt115.2 = true then (some ((wrap64 ((wrap64 (bt113.1 * 16)) + bt115.1)) % 256,true)) else (some (0,false))) else (some (0,false)))) else (none)) else (none))) else (none)) else (none)) = some (r1,r2):=by first|(rw [hji4] at H;exact H)|(simp only [hji4] at H ⊢;exact H)
  have hji4w:(IntKind.i64.wrap (a1 + 1)) = ji4:=(i64_w _).trans hji4
  by_cases c5:0 ≤ (ji4)
  ·rw [if_pos c5] at H
   have c5b0:decide (0 ≤ (ji4)) = true:=decide_eq_true c5
   clear c5
   by_cases c6:(ji4) < (a0.size:Int)
   ·rw [if_pos c6] at H
    have c6b0:decide ((ji4) < (a0.size:Int)) = true:=decide_eq_true c6
    clear c6
    replace H:=Option.bind_eq_some_iff.mp H
    obtain ⟨⟨t113,t114⟩,A80,H⟩:=H
    replace H:(if 0 ≤ (wrap64 (a1 + 2)) then (if (wrap64 (a1 + 2)) < (a0.size:Int) then ((impl_figureValue.f (bt a0 (wrap64 (a1 + 2)))).bind fun bt115=>(if t114 = true then (if bt115.2 = true then (some ((wrap64 ((wrap64 (t113 * 16)) + bt115.1)) % 256,true)) else (some (0,false))) else (some (0,false)))) else (none)) else (none)) = some (r1,r2):=H
    have A8:=Aside0.mk A80
    clear A80
    obtain ⟨ji9,hji9⟩:∃ j_:Int,(wrap64 (a1 + 2)) = j_:=⟨_,rfl⟩
    replace H:(if 0 ≤ (ji9) then (if (ji9) < (a0.size:Int) then ((impl_figureValue.f (bt a0 (ji9))).bind fun bt115=>(if t114 = true then (if bt115.2 = true then (some ((wrap64 ((wrap64 (t113 * 16)) + bt115.1)) % 256,true)) else (some (0,false))) else (some (0,false)))) else (none)) else (none)) = some (r1,r2):=by first|(rw [hji9] at H;exact H)|(simp only [hji9] at H ⊢;exact H)
    (try rw [hji9] at A8)
    have hji9w:(IntKind.i64.wrap (a1 + 2)) = ji9:=(i64_w _).trans hji9
    by_cases c10:0 ≤ (ji9)
    ·rw [if_pos c10] at H
     have c10b0:decide (0 ≤ (ji9)) = true:=decide_eq_true c10
     clear c10
     by_cases c11:(ji9) < (a0.size:Int)
     ·rw [if_pos c11] at H
      have c11b0:decide ((ji9) < (a0.size:Int)) = true:=decide_eq_true c11
      clear c11
      replace H:=Option.bind_eq_some_iff.mp H
      obtain ⟨⟨t115,t116⟩,A130,H⟩:=H
      replace H:(if t114 = true then (if t116 = true then (some ((wrap64 ((wrap64 (t113 * 16)) + t115)) % 256,true)) else (some (0,false))) else (some (0,false))) = some (r1,r2):=H
      have A13:=Aside0.mk A130
      clear A130
      by_cases c14:t114 = true
      ·subst c14
       have H1:(if t116 = true then (some ((wrap64 ((wrap64 (t113 * 16)) + t115)) % 256,true)) else (some (0,false))) = some (r1,r2):=by rw [if_pos rfl] at H;exact H
       clear H
       have H:=H1
       clear H1
       by_cases c15:t116 = true
       ·subst c15
        have H1:(some ((wrap64 ((wrap64 (t113 * 16)) + t115)) % 256,true)) = some (r1,r2):=by rw [if_pos rfl] at H;exact H
        clear H
        have H:=H1
        clear H1
        simp only [Option.some.injEq,Prod.mk.injEq] at H
        obtain ⟨rfl,rfl⟩:=H
        have p7:0 ≤ ((ji4):Int):=of_decide_eq_true (by first|(with_reducible assumption)|assumption)
        have q7:(ji4) < (a0.size:Int):=of_decide_eq_true (by first|(with_reducible assumption)|assumption)
        have hx7:=bt_at a0 (ji4)
        replace p7:=eq_true p7
        replace q7:=eq_true q7
        go_enter Tryd.func68,Tryd.ntmps68
        go_wp2_with (first|((with_reducible refine gate_callee (f:=84) rfl ?_);refine goesL_ (some 20) rfl rfl Tryd.func84 (by kernel_rfl) rfl #[.int .u8 (bt a0 (ji4))] rfl (by (try simp only [List.map_toArray,List.map_cons,List.map_nil]);first|done|(simp only [hji4];rfl)|rfl|(simp only [Act.eval,Array.getD_eq_getD_getElem?,Option.getD_some, *];done)|(simp [Act.eval,Array.getD_eq_getD_getElem?, *];done)|(simp only [List.length_drop,List.length_take];rfl)) ?_;(with_reducible refine (impl_figureValue.calls (bt a0 (ji4)) t113 true _ A8.out).mono ?_);rintro e w16 ⟨rfl,hb⟩;refine ⟨_,rfl,?_⟩;have n0_:=Aside0.mk (below_step (by repeat (first|(with_reducible first|exact HB.out|apply below_alloc|apply pw_below_drewN|apply below_drew1)|exact HB.out)) hb);clear HB;have HB:=n0_;clear n0_;(try clear hb);(try clear hb2);(try clear hk);(try clear hi);have p12:0 ≤ ((ji9):Int):=of_decide_eq_true (by first|(with_reducible assumption)|assumption);have q12:(ji9) < (a0.size:Int):=of_decide_eq_true (by first|(with_reducible assumption)|assumption);have hx12:=bt_at a0 (ji9);replace p12:=eq_true p12;replace q12:=eq_true q12)|((with_reducible refine gate_callee (f:=84) rfl ?_);refine goesL_ (some 28) rfl rfl Tryd.func84 (by kernel_rfl) rfl #[.int .u8 (bt a0 (ji9))] rfl (by (try simp only [List.map_toArray,List.map_cons,List.map_nil]);first|done|(simp only [hji9];rfl)|rfl|(simp only [Act.eval,Array.getD_eq_getD_getElem?,Option.getD_some, *];done)|(simp [Act.eval,Array.getD_eq_getD_getElem?, *];done)|(simp only [List.length_drop,List.length_take];rfl)) ?_;(with_reducible refine (impl_figureValue.calls (bt a0 (ji9)) t115 true _ A13.out).mono ?_);rintro e w17 ⟨rfl,hb⟩;refine ⟨_,rfl,?_⟩;have n0_:=Aside0.mk (below_step (by repeat (first|(with_reducible first|exact HB.out|apply below_alloc|apply pw_below_drewN|apply below_drew1)|exact HB.out)) hb);clear HB;have HB:=n0_;clear n0_;(try clear hb);(try clear hb2);(try clear hk);(try clear hi)))
        go_ret2
        exact ⟨by first|rfl|(simp <;> rfl)|(simp only [← hji4,← hji9];first|rfl|(simp <;> rfl))|(simp [*] <;> rfl),by repeat (first|(with_reducible first|exact HB.out|apply below_alloc|apply pw_below_drewN|apply below_drew1)|exact HB.out)⟩
       ·replace c15:=Bool.eq_false_iff.mpr c15
        subst c15
        have H1:(some (0,false)) = some (r1,r2):=by rw [if_neg (show ¬ (false = true) by decide)] at H;exact H
        clear H
        have H:=H1
        clear H1
        simp only [Option.some.injEq,Prod.mk.injEq] at H
        obtain ⟨rfl,rfl⟩:=H
        have p7:0 ≤ ((ji4):Int):=of_decide_eq_true (by first|(with_reducible assumption)|assumption)
        have q7:(ji4) < (a0.size:Int):=of_decide_eq_true (by first|(with_reducible assumption)|assumption)
        have hx7:=bt_at a0 (ji4)
        replace p7:=eq_true p7
        replace q7:=eq_true q7
        go_enter Tryd.func68,Tryd.ntmps68
        go_wp2_with (first|((with_reducible refine gate_callee (f:=84) rfl ?_);refine goesL_ (some 20) rfl rfl Tryd.func84 (by kernel_rfl) rfl #[.int .u8 (bt a0 (ji4))] rfl (by (try simp only [List.map_toArray,List.map_cons,List.map_nil]);first|done|(simp only [hji4];rfl)|rfl|(simp only [Act.eval,Array.getD_eq_getD_getElem?,Option.getD_some, *];done)|(simp [Act.eval,Array.getD_eq_getD_getElem?, *];done)|(simp only [List.length_drop,List.length_take];rfl)) ?_;(with_reducible refine (impl_figureValue.calls (bt a0 (ji4)) t113 true _ A8.out).mono ?_);rintro e w18 ⟨rfl,hb⟩;refine ⟨_,rfl,?_⟩;have n0_:=Aside0.mk (below_step (by repeat (first|(with_reducible first|exact HB.out|apply below_alloc|apply pw_below_drewN|apply below_drew1)|exact HB.out)) hb);clear HB;have HB:=n0_;clear n0_;(try clear hb);(try clear hb2);(try clear hk);(try clear hi);have p12:0 ≤ ((ji9):Int):=of_decide_eq_true (by first|(with_reducible assumption)|assumption);have q12:(ji9) < (a0.size:Int):=of_decide_eq_true (by first|(with_reducible assumption)|assumption);have hx12:=bt_at a0 (ji9);replace p12:=eq_true p12;replace q12:=eq_true q12)|((with_reducible refine gate_callee (f:=84) rfl ?_);refine goesL_ (some 28) rfl rfl Tryd.func84 (by kernel_rfl) rfl #[.int .u8 (bt a0 (ji9))] rfl (by (try simp only [List.map_toArray,List.map_cons,List.map_nil]);first|done|(simp only [hji9];rfl)|rfl|(simp only [Act.eval,Array.getD_eq_getD_getElem?,Option.getD_some, *];done)|(simp [Act.eval,Array.getD_eq_getD_getElem?, *];done)|(simp only [List.length_drop,List.length_take];rfl)) ?_;(with_reducible refine (impl_figureValue.calls (bt a0 (ji9)) t115 false _ A13.out).mono ?_);rintro e w19 ⟨rfl,hb⟩;refine ⟨_,rfl,?_⟩;have n0_:=Aside0.mk (below_step (by repeat (first|(with_reducible first|exact HB.out|apply below_alloc|apply pw_below_drewN|apply below_drew1)|exact HB.out)) hb);clear HB;have HB:=n0_;clear n0_;(try clear hb);(try clear hb2);(try clear hk);(try clear hi)))
        go_ret2
        exact ⟨by first|rfl|(simp <;> rfl)|(simp only [← hji4,← hji9];first|rfl|(simp <;> rfl))|(simp [*] <;> rfl),by repeat (first|(with_reducible first|exact HB.out|apply below_alloc|apply pw_below_drewN|apply below_drew1)|exact HB.out)⟩
      ·replace c14:=Bool.eq_false_iff.mpr c14
       subst c14
       have H1:(some (0,false)) = some (r1,r2):=by rw [if_neg (show ¬ (false = true) by decide)] at H;exact H
       clear H
       have H:=H1
       clear H1
       simp only [Option.some.injEq,Prod.mk.injEq] at H
       obtain ⟨rfl,rfl⟩:=H
       have p7:0 ≤ ((ji4):Int):=of_decide_eq_true (by first|(with_reducible assumption)|assumption)
       have q7:(ji4) < (a0.size:Int):=of_decide_eq_true (by first|(with_reducible assumption)|assumption)
       have hx7:=bt_at a0 (ji4)
       replace p7:=eq_true p7
       replace q7:=eq_true q7
       go_enter Tryd.func68,Tryd.ntmps68
       go_wp2_with (first|((with_reducible refine gate_callee (f:=84) rfl ?_);refine goesL_ (some 20) rfl rfl Tryd.func84 (by kernel_rfl) rfl #[.int .u8 (bt a0 (ji4))] rfl (by (try simp only [List.map_toArray,List.map_cons,List.map_nil]);first|done|(simp only [hji4];rfl)|rfl|(simp only [Act.eval,Array.getD_eq_getD_getElem?,Option.getD_some, *];done)|(simp [Act.eval,Array.getD_eq_getD_getElem?, *];done)|(simp only [List.length_drop,List.length_take];rfl)) ?_;(with_reducible refine (impl_figureValue.calls (bt a0 (ji4)) t113 false _ A8.out).mono ?_);rintro e w20 ⟨rfl,hb⟩;refine ⟨_,rfl,?_⟩;have n0_:=Aside0.mk (below_step (by repeat (first|(with_reducible first|exact HB.out|apply below_alloc|apply pw_below_drewN|apply below_drew1)|exact HB.out)) hb);clear HB;have HB:=n0_;clear n0_;(try clear hb);(try clear hb2);(try clear hk);(try clear hi);have p12:0 ≤ ((ji9):Int):=of_decide_eq_true (by first|(with_reducible assumption)|assumption);have q12:(ji9) < (a0.size:Int):=of_decide_eq_true (by first|(with_reducible assumption)|assumption);have hx12:=bt_at a0 (ji9);replace p12:=eq_true p12;replace q12:=eq_true q12)|((with_reducible refine gate_callee (f:=84) rfl ?_);refine goesL_ (some 28) rfl rfl Tryd.func84 (by kernel_rfl) rfl #[.int .u8 (bt a0 (ji9))] rfl (by (try simp only [List.map_toArray,List.map_cons,List.map_nil]);first|done|(simp only [hji9];rfl)|rfl|(simp only [Act.eval,Array.getD_eq_getD_getElem?,Option.getD_some, *];done)|(simp [Act.eval,Array.getD_eq_getD_getElem?, *];done)|(simp only [List.length_drop,List.length_take];rfl)) ?_;(with_reducible refine (impl_figureValue.calls (bt a0 (ji9)) t115 t116 _ A13.out).mono ?_);rintro e w21 ⟨rfl,hb⟩;refine ⟨_,rfl,?_⟩;have n0_:=Aside0.mk (below_step (by repeat (first|(with_reducible first|exact HB.out|apply below_alloc|apply pw_below_drewN|apply below_drew1)|exact HB.out)) hb);clear HB;have HB:=n0_;clear n0_;(try clear hb);(try clear hb2);(try clear hk);(try clear hi)))
       go_ret2
       exact ⟨by first|rfl|(simp <;> rfl)|(simp only [← hji4,← hji9];first|rfl|(simp <;> rfl))|(simp [*] <;> rfl),by repeat (first|(with_reducible first|exact HB.out|apply below_alloc|apply pw_below_drewN|apply below_drew1)|exact HB.out)⟩
     ·rw [if_neg c11] at H
      exact absurd H (by simp)
    ·rw [if_neg c10] at H
     exact absurd H (by simp)
   ·rw [if_neg c6] at H
    exact absurd H (by simp)
  ·rw [if_neg c5] at H
   exact absurd H (by simp)

def impl_standsForItself.f (a0:Int):Option (Bool):=if a0 ≥ 97 then (if a0 ≤ 122 then (some true) else (if a0 ≥ 48 then (if a0 ≤ 57 then (some true) else (if a0 = 46 then (some true) else (some (a0 == 45)))) else (if a0 = 46 then (some true) else (some (a0 == 45))))) else (if a0 ≥ 48 then (if a0 ≤ 57 then (some true) else (if a0 = 46 then (some true) else (some (a0 == 45)))) else (if a0 = 46 then (some true) else (some (a0 == 45))))
theorem impl_standsForItself.calls (a0:Int) (r:Bool) (w:World) (h:impl_standsForItself.f a0 = some r) :
  Calls Tryd.prog 69 #[.int .u8 a0] w fun e w'=>e = .returned (.bool r) ∧ Drawn0 w w':=by
 have H:(if a0 ≥ 97 then (if a0 ≤ 122 then (some true) else (if a0 ≥ 48 then (if a0 ≤ 57 then (some true) else (if a0 = 46 then (some true) else (some (a0 == 45)))) else (if a0 = 46 then (some true) else (some (a0 == 45))))) else (if a0 ≥ 48 then (if a0 ≤ 57 then (some true) else (if a0 = 46 then (some true) else (some (a0 == 45)))) else (if a0 = 46 then (some true) else (some (a0 == 45))))) = some r:=h
 clear h
 by_cases c2:a0 ≥ 97
 ·rw [if_pos c2] at H
  have c2b0:decide (97 ≤ a0) = true:=decide_eq_true c2
  clear c2
  by_cases c3:a0 ≤ 122
  ·rw [if_pos c3] at H
   have c3b0:decide (a0 ≤ 122) = true:=decide_eq_true c3
   clear c3
   obtain rfl:=Option.some.inj H
   go_enter Tryd.func69,Tryd.ntmps69
   go_wp2
   go_ret
   exact ⟨by first|rfl|(simp;done)|(simp only [i64_w,i32_w];done)|(simp only [i64_w,i32_w];rfl)|(simp [*];done)|(simp [emp_bne,emp_beq];done),by repeat (first|exact Drawn0.refl _|apply Drawn0.step)⟩
  ·rw [if_neg c3] at H
   have c3b0:decide (a0 ≤ 122) = false:=decide_eq_false c3
   clear c3
   by_cases c4:a0 ≥ 48
   ·rw [if_pos c4] at H
    have c4b0:decide (48 ≤ a0) = true:=decide_eq_true c4
    clear c4
    by_cases c5:a0 ≤ 57
    ·rw [if_pos c5] at H
     have c5b0:decide (a0 ≤ 57) = true:=decide_eq_true c5
     clear c5
     obtain rfl:=Option.some.inj H
     go_enter Tryd.func69,Tryd.ntmps69
     go_wp2
     go_ret
     exact ⟨by first|rfl|(simp;done)|(simp only [i64_w,i32_w];done)|(simp only [i64_w,i32_w];rfl)|(simp [*];done)|(simp [emp_bne,emp_beq];done),by repeat (first|exact Drawn0.refl _|apply Drawn0.step)⟩
    ·rw [if_neg c5] at H
     have c5b0:decide (a0 ≤ 57) = false:=decide_eq_false c5
     clear c5
     by_cases c6:a0 = 46
     ·rw [if_pos c6] at H
      have c6b0:(a0 == 46) = true:=beq_iff_eq.mpr c6
      have c6b1:(a0 != 46) = false:=bne_eq_false_iff_eq.mpr c6
      clear c6
      obtain rfl:=Option.some.inj H
      go_enter Tryd.func69,Tryd.ntmps69
      go_wp2
      go_ret
      exact ⟨by first|rfl|(simp;done)|(simp only [i64_w,i32_w];done)|(simp only [i64_w,i32_w];rfl)|(simp [*];done)|(simp [emp_bne,emp_beq];done),by repeat (first|exact Drawn0.refl _|apply Drawn0.step)⟩
     ·rw [if_neg c6] at H
      have c6b0:(a0 == 46) = false:=beq_eq_false_iff_ne.mpr c6
      have c6b1:(a0 != 46) = true:=bne_iff_ne.mpr c6
      obtain rfl:=Option.some.inj H
      go_enter Tryd.func69,Tryd.ntmps69
      go_wp2
      go_ret
      exact ⟨by first|rfl|(simp;done)|(simp only [i64_w,i32_w];done)|(simp only [i64_w,i32_w];rfl)|(simp [*];done)|(simp [emp_bne,emp_beq];done),by repeat (first|exact Drawn0.refl _|apply Drawn0.step)⟩
   ·rw [if_neg c4] at H
    have c4b0:decide (48 ≤ a0) = false:=decide_eq_false c4
    clear c4
    by_cases c7:a0 = 46
    ·rw [if_pos c7] at H
     have c7b0:(a0 == 46) = true:=beq_iff_eq.mpr c7
     have c7b1:(a0 != 46) = false:=bne_eq_false_iff_eq.mpr c7
     clear c7
     obtain rfl:=Option.some.inj H
     go_enter Tryd.func69,Tryd.ntmps69
     go_wp2
     go_ret
     exact ⟨by first|rfl|(simp;done)|(simp only [i64_w,i32_w];done)|(simp only [i64_w,i32_w];rfl)|(simp [*];done)|(simp [emp_bne,emp_beq];done),by repeat (first|exact Drawn0.refl _|apply Drawn0.step)⟩
    ·rw [if_neg c7] at H
     have c7b0:(a0 == 46) = false:=beq_eq_false_iff_ne.mpr c7
     have c7b1:(a0 != 46) = true:=bne_iff_ne.mpr c7
     obtain rfl:=Option.some.inj H
     go_enter Tryd.func69,Tryd.ntmps69
     go_wp2
     go_ret
     exact ⟨by first|rfl|(simp;done)|(simp only [i64_w,i32_w];done)|(simp only [i64_w,i32_w];rfl)|(simp [*];done)|(simp [emp_bne,emp_beq];done),by repeat (first|exact Drawn0.refl _|apply Drawn0.step)⟩
 ·rw [if_neg c2] at H
  have c2b0:decide (97 ≤ a0) = false:=decide_eq_false c2
  clear c2
  by_cases c8:a0 ≥ 48
  ·rw [if_pos c8] at H
   have c8b0:decide (48 ≤ a0) = true:=decide_eq_true c8
   clear c8
   by_cases c9:a0 ≤ 57
   ·rw [if_pos c9] at H
    have c9b0:decide (a0 ≤ 57) = true:=decide_eq_true c9
    clear c9
    obtain rfl:=Option.some.inj H
    go_enter Tryd.func69,Tryd.ntmps69
    go_wp2
    go_ret
    exact ⟨by first|rfl|(simp;done)|(simp only [i64_w,i32_w];done)|(simp only [i64_w,i32_w];rfl)|(simp [*];done)|(simp [emp_bne,emp_beq];done),by repeat (first|exact Drawn0.refl _|apply Drawn0.step)⟩
   ·rw [if_neg c9] at H
    have c9b0:decide (a0 ≤ 57) = false:=decide_eq_false c9
    clear c9
    by_cases c10:a0 = 46
    ·rw [if_pos c10] at H
     have c10b0:(a0 == 46) = true:=beq_iff_eq.mpr c10
     have c10b1:(a0 != 46) = false:=bne_eq_false_iff_eq.mpr c10
     clear c10
     obtain rfl:=Option.some.inj H
     go_enter Tryd.func69,Tryd.ntmps69
     go_wp2
     go_ret
     exact ⟨by first|rfl|(simp;done)|(simp only [i64_w,i32_w];done)|(simp only [i64_w,i32_w];rfl)|(simp [*];done)|(simp [emp_bne,emp_beq];done),by repeat (first|exact Drawn0.refl _|apply Drawn0.step)⟩
    ·rw [if_neg c10] at H
     have c10b0:(a0 == 46) = false:=beq_eq_false_iff_ne.mpr c10
     have c10b1:(a0 != 46) = true:=bne_iff_ne.mpr c10
     obtain rfl:=Option.some.inj H
     go_enter Tryd.func69,Tryd.ntmps69
     go_wp2
     go_ret
     exact ⟨by first|rfl|(simp;done)|(simp only [i64_w,i32_w];done)|(simp only [i64_w,i32_w];rfl)|(simp [*];done)|(simp [emp_bne,emp_beq];done),by repeat (first|exact Drawn0.refl _|apply Drawn0.step)⟩
  ·rw [if_neg c8] at H
   have c8b0:decide (48 ≤ a0) = false:=decide_eq_false c8
   clear c8
   by_cases c11:a0 = 46
   ·rw [if_pos c11] at H
    have c11b0:(a0 == 46) = true:=beq_iff_eq.mpr c11
    have c11b1:(a0 != 46) = false:=bne_eq_false_iff_eq.mpr c11
    clear c11
    obtain rfl:=Option.some.inj H
    go_enter Tryd.func69,Tryd.ntmps69
    go_wp2
    go_ret
    exact ⟨by first|rfl|(simp;done)|(simp only [i64_w,i32_w];done)|(simp only [i64_w,i32_w];rfl)|(simp [*];done)|(simp [emp_bne,emp_beq];done),by repeat (first|exact Drawn0.refl _|apply Drawn0.step)⟩
   ·rw [if_neg c11] at H
    have c11b0:(a0 == 46) = false:=beq_eq_false_iff_ne.mpr c11
    have c11b1:(a0 != 46) = true:=bne_iff_ne.mpr c11
    obtain rfl:=Option.some.inj H
    go_enter Tryd.func69,Tryd.ntmps69
    go_wp2
    go_ret
    exact ⟨by first|rfl|(simp;done)|(simp only [i64_w,i32_w];done)|(simp only [i64_w,i32_w];rfl)|(simp [*];done)|(simp [emp_bne,emp_beq];done),by repeat (first|exact Drawn0.refl _|apply Drawn0.step)⟩

end Go.Proofs.YtochmlkladpfgaaDoor.P
