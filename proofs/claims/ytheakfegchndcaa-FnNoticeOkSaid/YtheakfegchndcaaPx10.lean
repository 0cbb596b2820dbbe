-- Written by a program of this session (patch_print.py over the kit's print; given texts in wip/given).
-- Cut down by a program of this session (wip/tools/prune.py) to what its claim can name.
import Derived.Test.YtheakfegchndcaaPx0
namespace Go.Proofs.Ytheakfegchndcaa.P
open Go.RowKit Go.Proofs.YtheakfegchndcaaW.PrintWords Go.Proofs.YtheakfegchndcaaW.PrintLast Go.Proofs.YtheakfegchndcaaW.PrintMore
attribute [local go_sem] max2_int min2_int max_two min_two max_three min_three max_four min_four   -- for this text's walks alone
set_option linter.unusedVariables false
set_option linter.unusedSimpArgs false
set_option maxHeartbeats 8000000
set_option maxRecDepth 100000

/-! ### impl_allSmallLetters: function 67 -/
def impl_allSmallLetters.l0:Nat → ByteArray → Int → Option (Bool)
 | 0,_,_=>none
 | k + 1,x0,x3=>if x3 < (x0.size:Int) then (if 0 ≤ x3 then (if (bt x0 x3) < 97 then (some false) else (if (bt x0 x3) > 122 then (some false) else (impl_allSmallLetters.l0 k x0 (wrap64 (x3 + 1))))) else (none)) else (some true)
def impl_allSmallLetters.f (k:Nat) (a0:ByteArray):Option (Bool):=impl_allSmallLetters.l0 k a0 0
theorem impl_allSmallLetters.mono_l:∀ k,(∀ y0 y1,LeO (impl_allSmallLetters.l0 k y0 y1) (impl_allSmallLetters.l0 (k + 1) y0 y1))
 | 0=>fun _ _ r h=>by simp [impl_allSmallLetters.l0] at h
 | k + 1=>by
  have ih0:=impl_allSmallLetters.mono_l k
  ·intro y0 y1
   unfold impl_allSmallLetters.l0
   repeat' first
   | (with_reducible exact ih0 _ _)
   | (with_reducible exact LeO.refl _)
   | (with_reducible exact LeO.none _)
   | (with_reducible refine LeO.ite ?_ ?_)
   | (with_reducible refine LeO.bind ?_ (fun _=>?_))
   | exact ih0 _ _
   | exact LeO.none _
   | refine LeO.ite ?_ ?_
   | refine LeO.bind ?_ (fun _=>?_)
theorem impl_allSmallLetters.mono:∀ a0 k,LeO (impl_allSmallLetters.f k a0) (impl_allSmallLetters.f (k + 1) a0):=by
 intro a0 k
 have ih0:=impl_allSmallLetters.mono_l k
 unfold impl_allSmallLetters.f
 repeat' first
   | (with_reducible exact ih0 _ _)
   | (with_reducible exact LeO.refl _)
   | (with_reducible exact LeO.none _)
   | (with_reducible refine LeO.ite ?_ ?_)
   | (with_reducible refine LeO.bind ?_ (fun _=>?_))
   | exact ih0 _ _
   | exact LeO.none _
   | refine LeO.ite ?_ ?_
   | refine LeO.bind ?_ (fun _=>?_)
theorem impl_allSmallLetters.calls (k:Nat) (a0:ByteArray) (r:Bool) (w:World) (h:impl_allSmallLetters.f k a0 = some r) :
  Calls Try.prog 67 #[.string a0] w fun e w'=>e = .returned (.bool r) ∧ Drawn0 w w':=by
 have H:(impl_allSmallLetters.l0 k a0 0) = some r:=h
 clear h
 have H':=Aside0.mk H
 clear H
 go_enter Try.func67,Try.ntmps67
 go_wp2
 go_loopg [3] k (fun kq v3 w'=>∃ (x3_1:Int),v3 = .int .i64 x3_1 ∧ Aside0 (impl_allSmallLetters.l0 kq a0 x3_1 = some r) ∧ Aside0 (kq ≤ k) ∧ Drawn0 w w')
 case atStart=>exact ⟨(0),(by first|rfl|(simp;done)|(simp only [i64_w,i32_w];done)|(simp only [i64_w,i32_w];rfl)|(simp [*];done)|(simp [emp_bne,emp_beq];done)),H',⟨Nat.le_refl _⟩,by repeat (first|exact Drawn0.refl _|apply Drawn0.step)⟩
 case round =>
  clear H'
  obtain ⟨x3_1,rfl,HA,HK1,⟨m1,rfl⟩⟩:=hrel
  cases gk with
  | zero=>exact absurd HA.out (by simp [impl_allSmallLetters.l0])
  | succ k1 =>
   have H:=HA.out
   clear HA
   simp only [impl_allSmallLetters.l0] at H
   by_cases c2:x3_1 < (a0.size:Int)
   ·rw [if_pos c2] at H
    have c2b0:decide (x3_1 < (a0.size:Int)) = true:=decide_eq_true c2
    clear c2
    by_cases c3:0 ≤ x3_1
    ·rw [if_pos c3] at H
     have c3b0:decide (0 ≤ x3_1) = true:=decide_eq_true c3
     clear c3
     by_cases c5:(bt a0 x3_1) < 97
     ·rw [if_pos c5] at H
      have c5b0:decide ((bt a0 x3_1) < 97) = true:=decide_eq_true c5
      clear c5
      obtain rfl:=Option.some.inj H
      have p4:0 ≤ (x3_1:Int):=of_decide_eq_true (by first|(with_reducible assumption)|assumption)
      have q4:x3_1 < (a0.size:Int):=of_decide_eq_true (by first|(with_reducible assumption)|assumption)
      have hx4:=bt_at a0 x3_1
      replace p4:=eq_true p4
      replace q4:=eq_true q4
      go_wp2
      go_ret
      exact ⟨by first|rfl|(simp;done)|(simp only [i64_w,i32_w];done)|(simp only [i64_w,i32_w];rfl)|(simp [*];done)|(simp [emp_bne,emp_beq];done),by repeat (first|exact Drawn0.refl _|apply Drawn0.step)⟩
     ·rw [if_neg c5] at H
      have c5b0:decide ((bt a0 x3_1) < 97) = false:=decide_eq_false c5
      clear c5
      by_cases c7:(bt a0 x3_1) > 122
      ·rw [if_pos c7] at H
       have c7b0:decide (122 < (bt a0 x3_1)) = true:=decide_eq_true c7
       clear c7
       obtain rfl:=Option.some.inj H
       have p4:0 ≤ (x3_1:Int):=of_decide_eq_true (by first|(with_reducible assumption)|assumption)
       have q4:x3_1 < (a0.size:Int):=of_decide_eq_true (by first|(with_reducible assumption)|assumption)
       have hx4:=bt_at a0 x3_1
       replace p4:=eq_true p4
       replace q4:=eq_true q4
       have p6:0 ≤ (x3_1:Int):=of_decide_eq_true (by first|(with_reducible assumption)|assumption)
       have q6:x3_1 < (a0.size:Int):=of_decide_eq_true (by first|(with_reducible assumption)|assumption)
       have hx6:=bt_at a0 x3_1
       replace p6:=eq_true p6
       replace q6:=eq_true q6
       go_wp2
       go_ret
       exact ⟨by first|rfl|(simp;done)|(simp only [i64_w,i32_w];done)|(simp only [i64_w,i32_w];rfl)|(simp [*];done)|(simp [emp_bne,emp_beq];done),by repeat (first|exact Drawn0.refl _|apply Drawn0.step)⟩
      ·rw [if_neg c7] at H
       have c7b0:decide (122 < (bt a0 x3_1)) = false:=decide_eq_false c7
       clear c7
       have H':=Aside0.mk H
       clear H
       have p4:0 ≤ (x3_1:Int):=of_decide_eq_true (by first|(with_reducible assumption)|assumption)
       have q4:x3_1 < (a0.size:Int):=of_decide_eq_true (by first|(with_reducible assumption)|assumption)
       have hx4:=bt_at a0 x3_1
       replace p4:=eq_true p4
       replace q4:=eq_true q4
       have p6:0 ≤ (x3_1:Int):=of_decide_eq_true (by first|(with_reducible assumption)|assumption)
       have q6:x3_1 < (a0.size:Int):=of_decide_eq_true (by first|(with_reducible assumption)|assumption)
       have hx6:=bt_at a0 x3_1
       replace p6:=eq_true p6
       replace q6:=eq_true q6
       go_wp2
       go_roundg k1
       case measure=>have:=HK1.out;omega
       case rel=>exact ⟨(wrap64 (x3_1 + 1)),(by first|rfl|(simp;done)|(simp only [i64_w,i32_w];done)|(simp only [i64_w,i32_w];rfl)|(simp [*];done)|(simp [emp_bne,emp_beq];done)),H',⟨by have:=HK1.out;omega⟩,by repeat (first|exact Drawn0.refl _|apply Drawn0.step)⟩
    ·rw [if_neg c3] at H
     exact absurd H (by simp)
   ·rw [if_neg c2] at H
    have c2b0:decide (x3_1 < (a0.size:Int)) = false:=decide_eq_false c2
    clear c2
    obtain rfl:=Option.some.inj H
    go_wp2
    go_ret
    exact ⟨by first|rfl|(simp;done)|(simp only [i64_w,i32_w];done)|(simp only [i64_w,i32_w];rfl)|(simp [*];done)|(simp [emp_bne,emp_beq];done),by repeat (first|exact Drawn0.refl _|apply Drawn0.step)⟩

/-! ### impl_isName: function 63 -/
def impl_isName.f (k:Nat) (a0:ByteArray):Option (Bool):=if (a0.size:Int) ≥ 1 then (if (a0.size:Int) ≤ 8 then ((impl_allSmallLetters.f k a0).bind fun t238=>(some t238)) else (some false)) else (some false)
theorem impl_isName.mono:∀ a0 k,LeO (impl_isName.f k a0) (impl_isName.f (k + 1) a0):=by
 intro a0 k
 unfold impl_isName.f
 repeat' first
   | (with_reducible exact impl_allSmallLetters.mono _ _)
   | (with_reducible exact LeO.refl _)
   | (with_reducible exact LeO.none _)
   | (with_reducible refine LeO.ite ?_ ?_)
   | (with_reducible refine LeO.bind ?_ (fun _=>?_))
   | exact impl_allSmallLetters.mono _ _
   | exact LeO.none _
   | refine LeO.ite ?_ ?_
   | refine LeO.bind ?_ (fun _=>?_)
theorem impl_isName.calls (k:Nat) (a0:ByteArray) (r:Bool) (w:World) (h:impl_isName.f k a0 = some r) :
  Calls Try.prog 63 #[.string a0] w fun e w'=>e = .returned (.bool r) ∧ Drawn0 w w':=by
 have H:(if (a0.size:Int) ≥ 1 then (if (a0.size:Int) ≤ 8 then ((impl_allSmallLetters.f k a0).bind fun t238=>(some t238)) else (some false)) else (some false)) = some r:=h
 clear h
 by_cases c2:(a0.size:Int) ≥ 1
 ·rw [if_pos c2] at H
  have c2b0:decide (1 ≤ (a0.size:Int)) = true:=decide_eq_true c2
  have c2b1:decide (1 ≤ a0.size) = true:=decide_eq_true (by omega)
  clear c2
  by_cases c3:(a0.size:Int) ≤ 8
  ·rw [if_pos c3] at H
   have c3b0:decide ((a0.size:Int) ≤ 8) = true:=decide_eq_true c3
   have c3b1:decide (a0.size ≤ 8) = true:=decide_eq_true (by omega)
   clear c3
   replace H:=Option.bind_eq_some_iff.mp H
   obtain ⟨t238,A40,H⟩:=H
   replace H:(some t238) = some r:=H
   have A4:=Aside0.mk A40
   clear A40
   obtain rfl:=Option.some.inj H
   go_enter Try.func63,Try.ntmps63
   go_wp2_with (first|(go_at_call 67;(with_reducible refine (impl_allSmallLetters.calls k a0 t238 _ A4.out).mono ?_);rintro e w' ⟨rfl,⟨nd,rfl⟩⟩))
   go_ret
   exact ⟨by first|rfl|(simp;done)|(simp only [i64_w,i32_w];done)|(simp only [i64_w,i32_w];rfl)|(simp [*];done)|(simp [emp_bne,emp_beq];done),by repeat (first|exact Drawn0.refl _|apply Drawn0.step)⟩
  ·rw [if_neg c3] at H
   have c3b0:decide ((a0.size:Int) ≤ 8) = false:=decide_eq_false c3
   have c3b1:decide (a0.size ≤ 8) = false:=decide_eq_false (by omega)
   clear c3
   obtain rfl:=Option.some.inj H
   go_enter Try.func63,Try.ntmps63
   go_wp2
   go_ret
   exact ⟨by first|rfl|(simp;done)|(simp only [i64_w,i32_w];done)|(simp only [i64_w,i32_w];rfl)|(simp [*];done)|(simp [emp_bne,emp_beq];done),by repeat (first|exact Drawn0.refl _|apply Drawn0.step)⟩
 ·rw [if_neg c2] at H
  have c2b0:decide (1 ≤ (a0.size:Int)) = false:=decide_eq_false c2
  have c2b1:decide (1 ≤ a0.size) = false:=decide_eq_false (by omega)
  clear c2
  obtain rfl:=Option.some.inj H
  go_enter Try.func63,Try.ntmps63
  go_wp2
  go_ret
  exact ⟨by first|rfl|(simp;done)|(simp only [i64_w,i32_w];done)|(simp only [i64_w,i32_w];rfl)|(simp [*];done)|(simp [emp_bne,emp_beq];done),by repeat (first|exact Drawn0.refl _|apply Drawn0.step)⟩

/-! ### impl_isGroupName: function 53 -/
def impl_isGroupName.f (k:Nat) (a0:ByteArray):Option (Bool):=if a0.toList = ([42]:List UInt8) then (some true) else ((impl_isName.f k a0).bind fun t239=>(some t239))
theorem impl_isGroupName.mono:∀ a0 k,LeO (impl_isGroupName.f k a0) (impl_isGroupName.f (k + 1) a0):=by
 intro a0 k
 unfold impl_isGroupName.f
 repeat' first
   | (with_reducible exact impl_isName.mono _ _)
   | (with_reducible exact LeO.refl _)
   | (with_reducible exact LeO.none _)
   | (with_reducible refine LeO.ite ?_ ?_)
   | (with_reducible refine LeO.bind ?_ (fun _=>?_))
   | exact impl_isName.mono _ _
   | exact LeO.none _
   | refine LeO.ite ?_ ?_
   | refine LeO.bind ?_ (fun _=>?_)
theorem impl_isGroupName.calls (k:Nat) (a0:ByteArray) (r:Bool) (w:World) (h:impl_isGroupName.f k a0 = some r) :
  Calls Try.prog 53 #[.string a0] w fun e w'=>e = .returned (.bool r) ∧ Drawn0 w w':=by
 have H:(if a0.toList = ([42]:List UInt8) then (some true) else ((impl_isName.f k a0).bind fun t239=>(some t239))) = some r:=h
 clear h
 by_cases c2:a0.toList = ([42]:List UInt8)
 ·rw [if_pos c2] at H
  have c2b0:(a0.toList == ([42]:List UInt8)) = true:=beq_iff_eq.mpr c2
  have c2b1:(a0.toList != ([42]:List UInt8)) = false:=bne_eq_false_iff_eq.mpr c2
  clear c2
  obtain rfl:=Option.some.inj H
  go_enter Try.func53,Try.ntmps53
  go_wp2
  go_ret
  exact ⟨by first|rfl|(simp;done)|(simp only [i64_w,i32_w];done)|(simp only [i64_w,i32_w];rfl)|(simp [*];done)|(simp [emp_bne,emp_beq];done),by repeat (first|exact Drawn0.refl _|apply Drawn0.step)⟩
 ·rw [if_neg c2] at H
  have c2b0:(a0.toList == ([42]:List UInt8)) = false:=beq_eq_false_iff_ne.mpr c2
  have c2b1:(a0.toList != ([42]:List UInt8)) = true:=bne_iff_ne.mpr c2
  replace H:=Option.bind_eq_some_iff.mp H
  obtain ⟨t239,A30,H⟩:=H
  replace H:(some t239) = some r:=H
  have A3:=Aside0.mk A30
  clear A30
  obtain rfl:=Option.some.inj H
  go_enter Try.func53,Try.ntmps53
  go_wp2_with (first|(go_at_call 63;(with_reducible refine (impl_isName.calls k a0 t239 _ A3.out).mono ?_);rintro e w' ⟨rfl,⟨nd,rfl⟩⟩))
  go_ret
  exact ⟨by first|rfl|(simp;done)|(simp only [i64_w,i32_w];done)|(simp only [i64_w,i32_w];rfl)|(simp [*];done)|(simp [emp_bne,emp_beq];done),by repeat (first|exact Drawn0.refl _|apply Drawn0.step)⟩

/-! ### stringslite_HasSuffix: function 72 -/
def stringslite_HasSuffix.f (a0:ByteArray) (a1:ByteArray):Option (Bool):=if (a0.size:Int) ≥ (a1.size:Int) then (if 0 ≤ (wrap64 ((a0.size:Int) - (a1.size:Int))) then (if (wrap64 ((a0.size:Int) - (a1.size:Int))) ≤ (a0.size:Int) then (some ((a0.extract ((wrap64 ((a0.size:Int) - (a1.size:Int))):Int).toNat a0.size).toList == a1.toList)) else (none)) else (none)) else (some false)
theorem stringslite_HasSuffix.calls (a0:ByteArray) (a1:ByteArray) (r:Bool) (w:World) (h:stringslite_HasSuffix.f a0 a1 = some r) :
  Calls Try.prog 72 #[.string a0, .string a1] w fun e w'=>e = .returned (.bool r) ∧ Drawn0 w w':=by
 have H:(if (a0.size:Int) ≥ (a1.size:Int) then (if 0 ≤ (wrap64 ((a0.size:Int) - (a1.size:Int))) then (if (wrap64 ((a0.size:Int) - (a1.size:Int))) ≤ (a0.size:Int) then (some ((a0.extract ((wrap64 ((a0.size:Int) - (a1.size:Int))):Int).toNat a0.size).toList == a1.toList)) else (none)) else (none)) else (some false)) = some r:=h
 clear h
 by_cases c3:(a0.size:Int) ≥ (a1.size:Int)
 ·rw [if_pos c3] at H
  have c3b0:decide ((a1.size:Int) ≤ (a0.size:Int)) = true:=decide_eq_true c3
  have c3b1:decide (a1.size ≤ a0.size) = true:=decide_eq_true (Int.ofNat_le.mp c3)
  clear c3
  obtain ⟨ji4,hji4⟩:∃ j_:Int,(wrap64 ((a0.size:Int) - (a1.size:Int))) = j_:=⟨_,rfl⟩
  replace H:(if 0 ≤ (ji4) then (if (ji4) ≤ (a0.size:Int) then (some ((a0.extract ((ji4):Int).toNat a0.size).toList == a1.toList)) else (none)) else (none)) = some r:=by first|(rw [hji4] at H;exact H)|(simp only [hji4] at H ⊢;exact H)
  have hji4w:(IntKind.i64.wrap ((a0.size:Int) - (a1.size:Int))) = ji4:=(i64_w _).trans hji4
  by_cases c5:0 ≤ (ji4)
  ·rw [if_pos c5] at H
   have c5b0:=eq_true c5
   have c5b1:=decide_eq_true c5
   clear c5
   by_cases c6:(ji4) ≤ (a0.size:Int)
   ·rw [if_pos c6] at H
    have c6b0:=eq_true c6
    have c6b1:=decide_eq_true c6
    clear c6
    obtain rfl:=Option.some.inj H
    go_enter Try.func72,Try.ntmps72
    go_wp2
    go_ret
    exact ⟨by first|rfl|(simp only [i64_w,i32_w];done)|(simp only [i64_w,i32_w];rfl)|(simp;done)|(simp only [← hji4] <;> (first|rfl|simp))|(simp [*];done),by repeat (first|exact Drawn0.refl _|apply Drawn0.step)⟩
   ·rw [if_neg c6] at H
    exact absurd H (by simp)
  ·rw [if_neg c5] at H
   exact absurd H (by simp)
 ·rw [if_neg c3] at H
  have c3b0:decide ((a1.size:Int) ≤ (a0.size:Int)) = false:=decide_eq_false c3
  have c3b1:decide (a1.size ≤ a0.size) = false:=decide_eq_false (fun h=>c3 (Int.ofNat_le.mpr h))
  clear c3
  obtain rfl:=Option.some.inj H
  go_enter Try.func72,Try.ntmps72
  go_wp2
  go_ret
  exact ⟨by first|rfl|(simp;done)|(simp only [i64_w,i32_w];done)|(simp only [i64_w,i32_w];rfl)|(simp [*];done)|(simp [emp_bne,emp_beq];done),by repeat (first|exact Drawn0.refl _|apply Drawn0.step)⟩

/-! ### stringslite_TrimSuffix: function 70 -/
def stringslite_TrimSuffix.f (a0:ByteArray) (a1:ByteArray):Option (ByteArray):=(stringslite_HasSuffix.f a0 a1).bind fun t240=>(if t240 = true then (if 0 ≤ (wrap64 ((a0.size:Int) - (a1.size:Int))) then (if (wrap64 ((a0.size:Int) - (a1.size:Int))) ≤ (a0.size:Int) then (some (a0.extract 0 ((wrap64 ((a0.size:Int) - (a1.size:Int))):Int).toNat)) else (none)) else (none)) else (some a0))
theorem stringslite_TrimSuffix.calls (a0:ByteArray) (a1:ByteArray) (r:ByteArray) (w:World) (h:stringslite_TrimSuffix.f a0 a1 = some r) :
  Calls Try.prog 70 #[.string a0, .string a1] w fun e w'=>e = .returned (.string r) ∧ Drawn0 w w':=by
 have H:((stringslite_HasSuffix.f a0 a1).bind fun t240=>(if t240 = true then (if 0 ≤ (wrap64 ((a0.size:Int) - (a1.size:Int))) then (if (wrap64 ((a0.size:Int) - (a1.size:Int))) ≤ (a0.size:Int) then (some (a0.extract 0 ((wrap64 ((a0.size:Int) - (a1.size:Int))):Int).toNat)) else (none)) else (none)) else (some a0))) = some r:=h
 clear h
 replace H:=Option.bind_eq_some_iff.mp H
 obtain ⟨t240,A30,H⟩:=H
 replace H:(if t240 = true then (if 0 ≤ (wrap64 ((a0.size:Int) - (a1.size:Int))) then (if (wrap64 ((a0.size:Int) - (a1.size:Int))) ≤ (a0.size:Int) then (some (a0.extract 0 ((wrap64 ((a0.size:Int) - (a1.size:Int))):Int).toNat)) else (none)) else (none)) else (some a0)) = some r:=H
 have A3:=Aside0.mk A30
 clear A30
 by_cases c4:t240 = true
 ·subst c4
  have H1:(if 0 ≤ (wrap64 ((a0.size:Int) - (a1.size:Int))) then (if (wrap64 ((a0.size:Int) - (a1.size:Int))) ≤ (a0.size:Int) then (some (a0.extract 0 ((wrap64 ((a0.size:Int) - (a1.size:Int))):Int).toNat)) else (none)) else (none)) = some r:=by rw [if_pos rfl] at H;exact H
  clear H
  have H:=H1
  clear H1
  obtain ⟨ji5,hji5⟩:∃ j_:Int,(wrap64 ((a0.size:Int) - (a1.size:Int))) = j_:=⟨_,rfl⟩
  replace H:(if 0 ≤ (ji5) then (if (ji5) ≤ (a0.size:Int) then (some (a0.extract 0 ((ji5):Int).toNat)) else (none)) else (none)) = some r:=by first|(rw [hji5] at H;exact H)|(simp only [hji5] at H ⊢;exact H)
  (try rw [hji5] at A3)
  have hji5w:(IntKind.i64.wrap ((a0.size:Int) - (a1.size:Int))) = ji5:=(i64_w _).trans hji5
  by_cases c6:0 ≤ (ji5)
  ·rw [if_pos c6] at H
   have c6b0:=eq_true c6
   have c6b1:=decide_eq_true c6
   clear c6
   by_cases c7:(ji5) ≤ (a0.size:Int)
   ·rw [if_pos c7] at H
    have c7b0:=eq_true c7
    have c7b1:=decide_eq_true c7
    clear c7
    obtain rfl:=Option.some.inj H
    go_enter Try.func70,Try.ntmps70
    go_wp2_with (first|((with_reducible refine gate_callee (f:=72) rfl ?_);refine goesL_ (some 7) rfl rfl Try.func72 (by kernel_rfl) rfl #[.string a0, .string a1] rfl (by (try simp only [List.map_toArray,List.map_cons,List.map_nil]);first|done|rfl|(simp only [List.length_drop,List.length_take];rfl)) ?_;(with_reducible refine (stringslite_HasSuffix.calls a0 a1 true _ A3.out).mono ?_);rintro e w' ⟨rfl,⟨nd,rfl⟩⟩;refine ⟨_,rfl,?_⟩))
    go_ret
    exact ⟨by first|rfl|(simp only [i64_w,i32_w];done)|(simp only [i64_w,i32_w];rfl)|(simp;done)|(simp only [← hji5] <;> (first|rfl|simp))|(simp [*];done),by repeat (first|exact Drawn0.refl _|apply Drawn0.step)⟩
   ·rw [if_neg c7] at H
    exact absurd H (by simp)
  ·rw [if_neg c6] at H
   exact absurd H (by simp)
 ·replace c4:=Bool.eq_false_iff.mpr c4
  subst c4
  have H1:(some a0) = some r:=by rw [if_neg (show ¬ (false = true) by decide)] at H;exact H
  clear H
  have H:=H1
  clear H1
  obtain rfl:=Option.some.inj H
  go_enter Try.func70,Try.ntmps70
  go_wp2_with (first|((with_reducible refine gate_callee (f:=72) rfl ?_);refine goesL_ (some 7) rfl rfl Try.func72 (by kernel_rfl) rfl #[.string a0, .string a1] rfl (by (try simp only [List.map_toArray,List.map_cons,List.map_nil]);first|done|rfl|(simp only [List.length_drop,List.length_take];rfl)) ?_;(with_reducible refine (stringslite_HasSuffix.calls a0 a1 false _ A3.out).mono ?_);rintro e w' ⟨rfl,⟨nd,rfl⟩⟩;refine ⟨_,rfl,?_⟩))
  go_ret
  exact ⟨by first|rfl|(simp;done)|(simp only [i64_w,i32_w];done)|(simp only [i64_w,i32_w];rfl)|(simp [*];done)|(simp [emp_bne,emp_beq];done),by repeat (first|exact Drawn0.refl _|apply Drawn0.step)⟩

/-! ### strings_TrimSuffix: function 68 -/
def strings_TrimSuffix.f (a0:ByteArray) (a1:ByteArray):Option (ByteArray):=(stringslite_TrimSuffix.f a0 a1).bind fun t241=>(some t241)
theorem strings_TrimSuffix.calls (a0:ByteArray) (a1:ByteArray) (r:ByteArray) (w:World) (h:strings_TrimSuffix.f a0 a1 = some r) :
  Calls Try.prog 68 #[.string a0, .string a1] w fun e w'=>e = .returned (.string r) ∧ Drawn0 w w':=by
 have H:((stringslite_TrimSuffix.f a0 a1).bind fun t241=>(some t241)) = some r:=h
 clear h
 replace H:=Option.bind_eq_some_iff.mp H
 obtain ⟨t241,A30,H⟩:=H
 replace H:(some t241) = some r:=H
 have A3:=Aside0.mk A30
 clear A30
 obtain rfl:=Option.some.inj H
 go_enter Try.func68,Try.ntmps68
 go_wp2_with (first|((with_reducible refine gate_callee (f:=70) rfl ?_);refine goesL_ (some 7) rfl rfl Try.func70 (by kernel_rfl) rfl #[.string a0, .string a1] rfl (by (try simp only [List.map_toArray,List.map_cons,List.map_nil]);first|done|rfl|(simp only [List.length_drop,List.length_take];rfl)) ?_;(with_reducible refine (stringslite_TrimSuffix.calls a0 a1 t241 _ A3.out).mono ?_);rintro e w' ⟨rfl,⟨nd,rfl⟩⟩;refine ⟨_,rfl,?_⟩))
 go_ret
 exact ⟨by first|rfl|(simp;done)|(simp only [i64_w,i32_w];done)|(simp only [i64_w,i32_w];rfl)|(simp [*];done)|(simp [emp_bne,emp_beq];done),by repeat (first|exact Drawn0.refl _|apply Drawn0.step)⟩

/-! ### impl_standsForItself: function 71 -/
def impl_standsForItself.f (a0:Int):Option (Bool):=if a0 ≥ 97 then (if a0 ≤ 122 then (some true) else (if a0 ≥ 48 then (if a0 ≤ 57 then (some true) else (if a0 = 46 then (some true) else (some (a0 == 45)))) else (if a0 = 46 then (some true) else (some (a0 == 45))))) else (if a0 ≥ 48 then (if a0 ≤ 57 then (some true) else (if a0 = 46 then (some true) else (some (a0 == 45)))) else (if a0 = 46 then (some true) else (some (a0 == 45))))
theorem impl_standsForItself.calls (a0:Int) (r:Bool) (w:World) (h:impl_standsForItself.f a0 = some r) :
  Calls Try.prog 71 #[.int .u8 a0] w fun e w'=>e = .returned (.bool r) ∧ Drawn0 w w':=by
 have H:(if a0 ≥ 97 then (if a0 ≤ 122 then (some true) else (if a0 ≥ 48 then (if a0 ≤ 57 then (some true) else (if a0 = 46 then (some true) else (some (a0 == 45)))) else (if a0 = 46 then (some true) else (some (a0 == 45))))) else (if a0 ≥ 48 then (if a0 ≤ 57 then (some true) else (if a0 = 46 then (some true) else (some (a0 == 45)))) else (if a0 = 46 then (some true) else (some (a0 == 45))))) = some r:=h
 clear h
 by_cases c2:a0 ≥ 97
 ·rw [if_pos c2] at H
  have c2b0:decide (97 ≤ a0) = true:=decide_eq_true c2
  clear c2
  by_cases c3:a0 ≤ 122
  ·rw [if_pos c3] at H
   have c3b0:decide (a0 ≤ 122) = true:=decide_eq_true c3
   clear c3
   obtain rfl:=Option.some.inj H
   go_enter Try.func71,Try.ntmps71
   go_wp2
   go_ret
   exact ⟨by first|rfl|(simp;done)|(simp only [i64_w,i32_w];done)|(simp only [i64_w,i32_w];rfl)|(simp [*];done)|(simp [emp_bne,emp_beq];done),by repeat (first|exact Drawn0.refl _|apply Drawn0.step)⟩
  ·rw [if_neg c3] at H
   have c3b0:decide (a0 ≤ 122) = false:=decide_eq_false c3
   clear c3
   by_cases c4:a0 ≥ 48
   ·rw [if_pos c4] at H
    have c4b0:decide (48 ≤ a0) = true:=decide_eq_true c4
    clear c4
    by_cases c5:a0 ≤ 57
    ·rw [if_pos c5] at H
     have c5b0:decide (a0 ≤ 57) = true:=decide_eq_true c5
     clear c5
     obtain rfl:=Option.some.inj H
     go_enter Try.func71,Try.ntmps71
     go_wp2
     go_ret
     exact ⟨by first|rfl|(simp;done)|(simp only [i64_w,i32_w];done)|(simp only [i64_w,i32_w];rfl)|(simp [*];done)|(simp [emp_bne,emp_beq];done),by repeat (first|exact Drawn0.refl _|apply Drawn0.step)⟩
    ·rw [if_neg c5] at H
     have c5b0:decide (a0 ≤ 57) = false:=decide_eq_false c5
     clear c5
     by_cases c6:a0 = 46
     ·rw [if_pos c6] at H
      have c6b0:(a0 == 46) = true:=beq_iff_eq.mpr c6
      have c6b1:(a0 != 46) = false:=bne_eq_false_iff_eq.mpr c6
      clear c6
      obtain rfl:=Option.some.inj H
      go_enter Try.func71,Try.ntmps71
      go_wp2
      go_ret
      exact ⟨by first|rfl|(simp;done)|(simp only [i64_w,i32_w];done)|(simp only [i64_w,i32_w];rfl)|(simp [*];done)|(simp [emp_bne,emp_beq];done),by repeat (first|exact Drawn0.refl _|apply Drawn0.step)⟩
     ·rw [if_neg c6] at H
      have c6b0:(a0 == 46) = false:=beq_eq_false_iff_ne.mpr c6
      have c6b1:(a0 != 46) = true:=bne_iff_ne.mpr c6
      obtain rfl:=Option.some.inj H
      go_enter Try.func71,Try.ntmps71
      go_wp2
      go_ret
      exact ⟨by first|rfl|(simp;done)|(simp only [i64_w,i32_w];done)|(simp only [i64_w,i32_w];rfl)|(simp [*];done)|(simp [emp_bne,emp_beq];done),by repeat (first|exact Drawn0.refl _|apply Drawn0.step)⟩
   ·rw [if_neg c4] at H
    have c4b0:decide (48 ≤ a0) = false:=decide_eq_false c4
    clear c4
    by_cases c7:a0 = 46
    ·rw [if_pos c7] at H
     have c7b0:(a0 == 46) = true:=beq_iff_eq.mpr c7
     have c7b1:(a0 != 46) = false:=bne_eq_false_iff_eq.mpr c7
     clear c7
     obtain rfl:=Option.some.inj H
     go_enter Try.func71,Try.ntmps71
     go_wp2
     go_ret
     exact ⟨by first|rfl|(simp;done)|(simp only [i64_w,i32_w];done)|(simp only [i64_w,i32_w];rfl)|(simp [*];done)|(simp [emp_bne,emp_beq];done),by repeat (first|exact Drawn0.refl _|apply Drawn0.step)⟩
    ·rw [if_neg c7] at H
     have c7b0:(a0 == 46) = false:=beq_eq_false_iff_ne.mpr c7
     have c7b1:(a0 != 46) = true:=bne_iff_ne.mpr c7
     obtain rfl:=Option.some.inj H
     go_enter Try.func71,Try.ntmps71
     go_wp2
     go_ret
     exact ⟨by first|rfl|(simp;done)|(simp only [i64_w,i32_w];done)|(simp only [i64_w,i32_w];rfl)|(simp [*];done)|(simp [emp_bne,emp_beq];done),by repeat (first|exact Drawn0.refl _|apply Drawn0.step)⟩
 ·rw [if_neg c2] at H
  have c2b0:decide (97 ≤ a0) = false:=decide_eq_false c2
  clear c2
  by_cases c8:a0 ≥ 48
  ·rw [if_pos c8] at H
   have c8b0:decide (48 ≤ a0) = true:=decide_eq_true c8
   clear c8
   by_cases c9:a0 ≤ 57
   ·rw [if_pos c9] at H
    have c9b0:decide (a0 ≤ 57) = true:=decide_eq_true c9
    clear c9
    obtain rfl:=Option.some.inj H
    go_enter Try.func71,Try.ntmps71
    go_wp2
    go_ret
    exact ⟨by first|rfl|(simp;done)|(simp only [i64_w,i32_w];done)|(simp only [i64_w,i32_w];rfl)|(simp [*];done)|(simp [emp_bne,emp_beq];done),by repeat (first|exact Drawn0.refl _|apply Drawn0.step)⟩
   ·rw [if_neg c9] at H
    have c9b0:decide (a0 ≤ 57) = false:=decide_eq_false c9
    clear c9
    by_cases c10:a0 = 46
    ·rw [if_pos c10] at H
     have c10b0:(a0 == 46) = true:=beq_iff_eq.mpr c10
     have c10b1:(a0 != 46) = false:=bne_eq_false_iff_eq.mpr c10
     clear c10
     obtain rfl:=Option.some.inj H
     go_enter Try.func71,Try.ntmps71
     go_wp2
     go_ret
     exact ⟨by first|rfl|(simp;done)|(simp only [i64_w,i32_w];done)|(simp only [i64_w,i32_w];rfl)|(simp [*];done)|(simp [emp_bne,emp_beq];done),by repeat (first|exact Drawn0.refl _|apply Drawn0.step)⟩
    ·rw [if_neg c10] at H
     have c10b0:(a0 == 46) = false:=beq_eq_false_iff_ne.mpr c10
     have c10b1:(a0 != 46) = true:=bne_iff_ne.mpr c10
     obtain rfl:=Option.some.inj H
     go_enter Try.func71,Try.ntmps71
     go_wp2
     go_ret
     exact ⟨by first|rfl|(simp;done)|(simp only [i64_w,i32_w];done)|(simp only [i64_w,i32_w];rfl)|(simp [*];done)|(simp [emp_bne,emp_beq];done),by repeat (first|exact Drawn0.refl _|apply Drawn0.step)⟩
  ·rw [if_neg c8] at H
   have c8b0:decide (48 ≤ a0) = false:=decide_eq_false c8
   clear c8
   by_cases c11:a0 = 46
   ·rw [if_pos c11] at H
    have c11b0:(a0 == 46) = true:=beq_iff_eq.mpr c11
    have c11b1:(a0 != 46) = false:=bne_eq_false_iff_eq.mpr c11
    clear c11
    obtain rfl:=Option.some.inj H
    go_enter Try.func71,Try.ntmps71
    go_wp2
    go_ret
    exact ⟨by first|rfl|(simp;done)|(simp only [i64_w,i32_w];done)|(simp only [i64_w,i32_w];rfl)|(simp [*];done)|(simp [emp_bne,emp_beq];done),by repeat (first|exact Drawn0.refl _|apply Drawn0.step)⟩
   ·rw [if_neg c11] at H
    have c11b0:(a0 == 46) = false:=beq_eq_false_iff_ne.mpr c11
    have c11b1:(a0 != 46) = true:=bne_iff_ne.mpr c11
    obtain rfl:=Option.some.inj H
    go_enter Try.func71,Try.ntmps71
    go_wp2
    go_ret
    exact ⟨by first|rfl|(simp;done)|(simp only [i64_w,i32_w];done)|(simp only [i64_w,i32_w];rfl)|(simp [*];done)|(simp [emp_bne,emp_beq];done),by repeat (first|exact Drawn0.refl _|apply Drawn0.step)⟩

/-! ### impl_isPatternByte: function 69 -/
def impl_isPatternByte.f (a0:Int):Option (Bool):=if a0 = 47 then (some true) else (if a0 = 42 then (some true) else (if a0 = 63 then (some true) else (if a0 = 37 then (some true) else ((impl_standsForItself.f a0).bind fun t242=>(if t242 = true then (some true) else (if a0 ≥ 65 then (some (decide (a0 ≤ 70))) else (some false)))))))
theorem impl_isPatternByte.calls (a0:Int) (r:Bool) (w:World) (h:impl_isPatternByte.f a0 = some r) :
  Calls Try.prog 69 #[.int .u8 a0] w fun e w'=>e = .returned (.bool r) ∧ Drawn0 w w':=by
 have H:(if a0 = 47 then (some true) else (if a0 = 42 then (some true) else (if a0 = 63 then (some true) else (if a0 = 37 then (some true) else ((impl_standsForItself.f a0).bind fun t242=>(if t242 = true then (some true) else (if a0 ≥ 65 then (some (decide (a0 ≤ 70))) else (some false)))))))) = some r:=h
 clear h
 by_cases c2:a0 = 47
 ·rw [if_pos c2] at H
  have c2b0:(a0 == 47) = true:=beq_iff_eq.mpr c2
  have c2b1:(a0 != 47) = false:=bne_eq_false_iff_eq.mpr c2
  clear c2
  obtain rfl:=Option.some.inj H
  go_enter Try.func69,Try.ntmps69
  go_wp2
  go_ret
  exact ⟨by first|rfl|(simp;done)|(simp only [i64_w,i32_w];done)|(simp only [i64_w,i32_w];rfl)|(simp [*];done)|(simp [emp_bne,emp_beq];done),by repeat (first|exact Drawn0.refl _|apply Drawn0.step)⟩
 ·rw [if_neg c2] at H
  have c2b0:(a0 == 47) = false:=beq_eq_false_iff_ne.mpr c2
  have c2b1:(a0 != 47) = true:=bne_iff_ne.mpr c2
  by_cases c3:a0 = 42
  ·rw [if_pos c3] at H
   have c3b0:(a0 == 42) = true:=beq_iff_eq.mpr c3
   have c3b1:(a0 != 42) = false:=bne_eq_false_iff_eq.mpr c3
   clear c3
   obtain rfl:=Option.some.inj H
   go_enter Try.func69,Try.ntmps69
   go_wp2
   go_ret
   exact ⟨by first|rfl|(simp;done)|(simp only [i64_w,i32_w];done)|(simp only [i64_w,i32_w];rfl)|(simp [*];done)|(simp [emp_bne,emp_beq];done),by repeat (first|exact Drawn0.refl _|apply Drawn0.step)⟩
  ·rw [if_neg c3] at H
   have c3b0:(a0 == 42) = false:=beq_eq_false_iff_ne.mpr c3
   have c3b1:(a0 != 42) = true:=bne_iff_ne.mpr c3
   by_cases c4:a0 = 63
   ·rw [if_pos c4] at H
    have c4b0:(a0 == 63) = true:=beq_iff_eq.mpr c4
    have c4b1:(a0 != 63) = false:=bne_eq_false_iff_eq.mpr c4
    clear c4
    obtain rfl:=Option.some.inj H
    go_enter Try.func69,Try.ntmps69
    go_wp2
    go_ret
    exact ⟨by first|rfl|(simp;done)|(simp only [i64_w,i32_w];done)|(simp only [i64_w,i32_w];rfl)|(simp [*];done)|(simp [emp_bne,emp_beq];done),by repeat (first|exact Drawn0.refl _|apply Drawn0.step)⟩
   ·rw [if_neg c4] at H
    have c4b0:(a0 == 63) = false:=beq_eq_false_iff_ne.mpr c4
    have c4b1:(a0 != 63) = true:=bne_iff_ne.mpr c4
    by_cases c5:a0 = 37
    ·rw [if_pos c5] at H
     have c5b0:(a0 == 37) = true:=beq_iff_eq.mpr c5
     have c5b1:(a0 != 37) = false:=bne_eq_false_iff_eq.mpr c5
     clear c5
     obtain rfl:=Option.some.inj H
     go_enter Try.func69,Try.ntmps69
     go_wp2
     go_ret
     exact ⟨by first|rfl|(simp;done)|(simp only [i64_w,i32_w];done)|(simp only [i64_w,i32_w];rfl)|(simp [*];done)|(simp [emp_bne,emp_beq];done),by repeat (first|exact Drawn0.refl _|apply Drawn0.step)⟩
    ·rw [if_neg c5] at H
     have c5b0:(a0 == 37) = false:=beq_eq_false_iff_ne.mpr c5
     have c5b1:(a0 != 37) = true:=bne_iff_ne.mpr c5
     replace H:=Option.bind_eq_some_iff.mp H
     obtain ⟨t242,A60,H⟩:=H
     replace H:(if t242 = true then (some true) else (if a0 ≥ 65 then (some (decide (a0 ≤ 70))) else (some false))) = some r:=H
     have A6:=Aside0.mk A60
     clear A60
     by_cases c7:t242 = true
     ·subst c7
      have H1:(some true) = some r:=by rw [if_pos rfl] at H;exact H
      clear H
      have H:=H1
      clear H1
      obtain rfl:=Option.some.inj H
      go_enter Try.func69,Try.ntmps69
      go_wp2_with (first|((with_reducible refine gate_callee (f:=71) rfl ?_);refine goesL_ (some 10) rfl rfl Try.func71 (by kernel_rfl) rfl #[.int .u8 a0] rfl (by (try simp only [List.map_toArray,List.map_cons,List.map_nil]);first|done|rfl|(simp only [List.length_drop,List.length_take];rfl)) ?_;(with_reducible refine (impl_standsForItself.calls a0 true _ A6.out).mono ?_);rintro e w' ⟨rfl,⟨nd,rfl⟩⟩;refine ⟨_,rfl,?_⟩))
      go_ret
      exact ⟨by first|rfl|(simp;done)|(simp only [i64_w,i32_w];done)|(simp only [i64_w,i32_w];rfl)|(simp [*];done)|(simp [emp_bne,emp_beq];done),by repeat (first|exact Drawn0.refl _|apply Drawn0.step)⟩
     ·replace c7:=Bool.eq_false_iff.mpr c7
      subst c7
      have H1:(if a0 ≥ 65 then (some (decide (a0 ≤ 70))) else (some false)) = some r:=by rw [if_neg (show ¬ (false = true) by decide)] at H;exact H
      clear H
      have H:=H1
      clear H1
      by_cases c8:a0 ≥ 65
      ·rw [if_pos c8] at H
       have c8b0:decide (65 ≤ a0) = true:=decide_eq_true c8
       clear c8
       obtain rfl:=Option.some.inj H
       go_enter Try.func69,Try.ntmps69
       go_wp2_with (first|((with_reducible refine gate_callee (f:=71) rfl ?_);refine goesL_ (some 10) rfl rfl Try.func71 (by kernel_rfl) rfl #[.int .u8 a0] rfl (by (try simp only [List.map_toArray,List.map_cons,List.map_nil]);first|done|rfl|(simp only [List.length_drop,List.length_take];rfl)) ?_;(with_reducible refine (impl_standsForItself.calls a0 false _ A6.out).mono ?_);rintro e w' ⟨rfl,⟨nd,rfl⟩⟩;refine ⟨_,rfl,?_⟩))
       go_ret
       exact ⟨by first|rfl|(simp;done)|(simp only [i64_w,i32_w];done)|(simp only [i64_w,i32_w];rfl)|(simp [*];done)|(simp [emp_bne,emp_beq];done),by repeat (first|exact Drawn0.refl _|apply Drawn0.step)⟩
      ·rw [if_neg c8] at H
       have c8b0:decide (65 ≤ a0) = false:=decide_eq_false c8
       clear c8
       obtain rfl:=Option.some.inj H
       go_enter Try.func69,Try.ntmps69
       go_wp2_with (first|((with_reducible refine gate_callee (f:=71) rfl ?_);refine goesL_ (some 10) rfl rfl Try.func71 (by kernel_rfl) rfl #[.int .u8 a0] rfl (by (try simp only [List.map_toArray,List.map_cons,List.map_nil]);first|done|rfl|(simp only [List.length_drop,List.length_take];rfl)) ?_;(with_reducible refine (impl_standsForItself.calls a0 false _ A6.out).mono ?_);rintro e w' ⟨rfl,⟨nd,rfl⟩⟩;refine ⟨_,rfl,?_⟩))
       go_ret
       exact ⟨by first|rfl|(simp;done)|(simp only [i64_w,i32_w];done)|(simp only [i64_w,i32_w];rfl)|(simp [*];done)|(simp [emp_bne,emp_beq];done),by repeat (first|exact Drawn0.refl _|apply Drawn0.step)⟩

/-! ### impl_RuleOk: function 64 -/
mutual
def impl_RuleOk.j0:Nat → ByteArray → Bool → Option (Bool)
 | 0,_,_=>none
 | k + 1,x0,x17=>if x17 = true then (some false) else ((strings_TrimSuffix.f x0 (⟨#[36]⟩:ByteArray)).bind fun t243=>(impl_RuleOk.l0 k t243 0))
def impl_RuleOk.l0:Nat → ByteArray → Int → Option (Bool)
 | 0,_,_=>none
 | k + 1,x3,x4=>if x4 < (x3.size:Int) then (if 0 ≤ x4 then ((impl_isPatternByte.f (bt x3 x4)).bind fun t244=>(if t244 = true then (impl_RuleOk.l0 k x3 (wrap64 (x4 + 1))) else (some false))) else (none)) else (some true)
end
def impl_RuleOk.f (k:Nat) (a0:ByteArray):Option (Bool):=if (a0.size:Int) < 1 then (impl_RuleOk.j0 k a0 true) else (if (a0.size:Int) > 16 then (impl_RuleOk.j0 k a0 true) else (if 0 < (a0.size:Int) then (impl_RuleOk.j0 k a0 ((bt a0 0) != 47)) else (none)))
theorem impl_RuleOk.mono_l:∀ k,(∀ y0 y1,LeO (impl_RuleOk.j0 k y0 y1) (impl_RuleOk.j0 (k + 1) y0 y1)) ∧ (∀ y0 y1,LeO (impl_RuleOk.l0 k y0 y1) (impl_RuleOk.l0 (k + 1) y0 y1))
 | 0=>⟨fun _ _ r h=>by simp [impl_RuleOk.j0] at h,fun _ _ r h=>by simp [impl_RuleOk.l0] at h⟩
 | k + 1=>by
  obtain ⟨ih0,ih1⟩:=impl_RuleOk.mono_l k
  refine ⟨?_,?_⟩
  ·intro y0 y1
   unfold impl_RuleOk.j0
   repeat' first
   | (with_reducible exact ih0 _ _)
   | (with_reducible exact ih1 _ _)
   | (with_reducible exact LeO.refl _)
   | (with_reducible exact LeO.none _)
   | (with_reducible refine LeO.ite ?_ ?_)
   | (with_reducible refine LeO.bind ?_ (fun _=>?_))
   | exact ih0 _ _
   | exact ih1 _ _
   | exact LeO.none _
   | refine LeO.ite ?_ ?_
   | refine LeO.bind ?_ (fun _=>?_)
  ·intro y0 y1
   unfold impl_RuleOk.l0
   repeat' first
   | (with_reducible exact ih0 _ _)
   | (with_reducible exact ih1 _ _)
   | (with_reducible exact LeO.refl _)
   | (with_reducible exact LeO.none _)
   | (with_reducible refine LeO.ite ?_ ?_)
   | (with_reducible refine LeO.bind ?_ (fun _=>?_))
   | exact ih0 _ _
   | exact ih1 _ _
   | exact LeO.none _
   | refine LeO.ite ?_ ?_
   | refine LeO.bind ?_ (fun _=>?_)
theorem impl_RuleOk.mono:∀ a0 k,LeO (impl_RuleOk.f k a0) (impl_RuleOk.f (k + 1) a0):=by
 intro a0 k
 obtain ⟨ih0,ih1⟩:=impl_RuleOk.mono_l k
 unfold impl_RuleOk.f
 repeat' first
   | (with_reducible exact ih0 _ _)
   | (with_reducible exact ih1 _ _)
   | (with_reducible exact LeO.refl _)
   | (with_reducible exact LeO.none _)
   | (with_reducible refine LeO.ite ?_ ?_)
   | (with_reducible refine LeO.bind ?_ (fun _=>?_))
   | exact ih0 _ _
   | exact ih1 _ _
   | exact LeO.none _
   | refine LeO.ite ?_ ?_
   | refine LeO.bind ?_ (fun _=>?_)
theorem impl_RuleOk.calls (k:Nat) (a0:ByteArray) (r:Bool) (w:World) (h:impl_RuleOk.f k a0 = some r) :
  Calls Try.prog 64 #[.string a0] w fun e w'=>e = .returned (.bool r) ∧ Drawn0 w w':=by
 have H:(if (a0.size:Int) < 1 then (impl_RuleOk.j0 k a0 true) else (if (a0.size:Int) > 16 then (impl_RuleOk.j0 k a0 true) else (if 0 < (a0.size:Int) then (impl_RuleOk.j0 k a0 ((bt a0 0) != 47)) else (none)))) = some r:=h
 clear h
 have HC2:=Aside0.mk H
 clear H
 go_enter Try.func64,Try.ntmps64
 go_upto_region 1 with (fail)
 go_cut [17] (fun v17 wc=>∃ (kq:Nat) (x17_1:Bool),v17 = .bool x17_1 ∧ Aside0 (impl_RuleOk.j0 kq a0 x17_1 = some r) ∧ Aside0 (kq ≤ k) ∧ Drawn0 w wc)
 case first =>
  have H:=HC2.out
  clear HC2
  by_cases c3:(a0.size:Int) < 1
  ·rw [if_pos c3] at H
   have c3b0:decide ((a0.size:Int) < 1) = true:=decide_eq_true c3
   have c3b1:decide (a0.size < 1) = true:=decide_eq_true (by omega)
   clear c3
   (first|rw [c3b0]|(simp only [i64_w,i32_w];rw [c3b0])|skip)
   have H':=Aside0.mk H
   clear H
   go_wp2
   go_meet
   case rel=>exact ⟨_,(true),(by first|rfl|(simp;done)|(simp only [i64_w,i32_w];done)|(simp only [i64_w,i32_w];rfl)|(simp [*];done)|(simp [emp_bne,emp_beq];done)),H',⟨by first|omega|exact Nat.le_refl _⟩,by repeat (first|exact Drawn0.refl _|apply Drawn0.step)⟩
  ·rw [if_neg c3] at H
   have c3b0:decide ((a0.size:Int) < 1) = false:=decide_eq_false c3
   have c3b1:decide (a0.size < 1) = false:=decide_eq_false (by omega)
   clear c3
   (first|rw [c3b0]|(simp only [i64_w,i32_w];rw [c3b0])|skip)
   by_cases c4:(a0.size:Int) > 16
   ·rw [if_pos c4] at H
    have c4b0:decide (16 < (a0.size:Int)) = true:=decide_eq_true c4
    have c4b1:decide (16 < a0.size) = true:=decide_eq_true (by omega)
    clear c4
    have H':=Aside0.mk H
    clear H
    go_wp2
    go_meet
    case rel=>exact ⟨_,(true),(by first|rfl|(simp;done)|(simp only [i64_w,i32_w];done)|(simp only [i64_w,i32_w];rfl)|(simp [*];done)|(simp [emp_bne,emp_beq];done)),H',⟨by first|omega|exact Nat.le_refl _⟩,by repeat (first|exact Drawn0.refl _|apply Drawn0.step)⟩
   ·rw [if_neg c4] at H
    have c4b0:decide (16 < (a0.size:Int)) = false:=decide_eq_false c4
    have c4b1:decide (16 < a0.size) = false:=decide_eq_false (by omega)
    clear c4
    by_cases c5:0 < (a0.size:Int)
    ·rw [if_pos c5] at H
     have c5b0:decide (0 < (a0.size:Int)) = true:=decide_eq_true c5
     have c5b1:decide (0 < a0.size) = true:=decide_eq_true (by omega)
     clear c5
     have H':=Aside0.mk H
     clear H
     have p6:0 ≤ (0:Int):=(by omega)
     have q6:0 < a0.size:=(by have:(0:Int) < (a0.size:Int):=of_decide_eq_true (by first|(with_reducible assumption)|assumption);omega)
     have hx6:∀ h:0 < a0.size,((a0[0]'h).toNat:Int) = bt a0 0:=bt_at a0 0
     clear p6
     have qi6:(0 < (a0.size:Int)) = True:=eq_true (of_decide_eq_true (by first|(with_reducible assumption)|assumption))
     replace q6:=eq_true q6
     go_wp2
     go_meet
     case rel=>exact ⟨_,(((bt a0 0) != 47)),(by first|rfl|(simp;done)|(simp only [i64_w,i32_w];done)|(simp only [i64_w,i32_w];rfl)|(simp [*];done)|(simp [emp_bne,emp_beq];done)),H',⟨by first|omega|exact Nat.le_refl _⟩,by repeat (first|exact Drawn0.refl _|apply Drawn0.step)⟩
    ·rw [if_neg c5] at H
     exact absurd H (by simp)
 case rest =>
  clear HC2
  try clear p2
  try clear c3
  try clear c3b0
  try clear c3b1
  try clear c4
  try clear c4b0
  try clear c4b1
  try clear c5
  try clear c5b0
  try clear c5b1
  try clear c6
  try clear p6
  try clear q6
  try clear hx6
  try clear qi6
  try clear p6
  try clear q6
  obtain ⟨kq,x17_1,rfl,HA,HJ1,⟨mc1,rfl⟩⟩:=hcut
  cases kq with
  | zero=>exact absurd HA.out (by simp [impl_RuleOk.j0])
  | succ kj1 =>
   have H:=HA.out
   clear HA
   simp only [impl_RuleOk.j0] at H
   by_cases c7:x17_1 = true
   ·subst c7
    have H1:(some false) = some r:=by rw [if_pos rfl] at H;exact H
    clear H
    have H:=H1
    clear H1
    obtain rfl:=Option.some.inj H
    go_wp2
    go_ret
    exact ⟨by first|rfl|(simp;done)|(simp only [i64_w,i32_w];done)|(simp only [i64_w,i32_w];rfl)|(simp [*];done)|(simp [emp_bne,emp_beq];done),by repeat (first|exact Drawn0.refl _|apply Drawn0.step)⟩
   ·replace c7:=Bool.eq_false_iff.mpr c7
    subst c7
    have H1:((strings_TrimSuffix.f a0 (⟨#[36]⟩:ByteArray)).bind fun t243=>(impl_RuleOk.l0 kj1 t243 0)) = some r:=by rw [if_neg (show ¬ (false = true) by decide)] at H;exact H
    clear H
    have H:=H1
    clear H1
    replace H:=Option.bind_eq_some_iff.mp H
    obtain ⟨t243,A80,H⟩:=H
    replace H:(impl_RuleOk.l0 kj1 t243 0) = some r:=H
    have A8:=Aside0.mk A80
    clear A80
    have H':=Aside0.mk H
    clear H
    go_wp2_with (first|((with_reducible refine gate_callee (f:=68) rfl ?_);refine goesL_ (some 19) rfl rfl Try.func68 (by kernel_rfl) rfl #[.string a0, .string (⟨#[36]⟩:ByteArray)] rfl (by (try simp only [List.map_toArray,List.map_cons,List.map_nil]);first|done|rfl|(simp only [List.length_drop,List.length_take];rfl)) ?_;(with_reducible refine (strings_TrimSuffix.calls a0 (⟨#[36]⟩:ByteArray) t243 _ A8.out).mono ?_);rintro e w' ⟨rfl,⟨nd,rfl⟩⟩;refine ⟨_,rfl,?_⟩))
    go_loopg [4] kj1 (fun kq v4 w'=>∃ (x4_2:Int),v4 = .int .i64 x4_2 ∧ Aside0 (impl_RuleOk.l0 kq t243 x4_2 = some r) ∧ Aside0 (kq ≤ kj1) ∧ Drawn0 w w')
    case atStart=>exact ⟨(0),(by first|rfl|(simp;done)|(simp only [i64_w,i32_w];done)|(simp only [i64_w,i32_w];rfl)|(simp [*];done)|(simp [emp_bne,emp_beq];done)),H',⟨Nat.le_refl _⟩,by repeat (first|exact Drawn0.refl _|apply Drawn0.step)⟩
    case round =>
     clear H'
     try clear c1
     try clear p2
     try clear c3
     try clear c3b0
     try clear c3b1
     try clear c4
     try clear c4b0
     try clear c4b1
     try clear c5
     try clear c5b0
     try clear c5b1
     try clear c6
     try clear p6
     try clear q6
     try clear hx6
     try clear qi6
     try clear c7
     try clear p2
     try clear p6
     try clear q6
     obtain ⟨x4_2,rfl,HA,HK2,⟨m2,rfl⟩⟩:=hrel
     cases gk with
     | zero=>exact absurd HA.out (by simp [impl_RuleOk.l0])
     | succ k2 =>
      have H:=HA.out
      clear HA
      simp only [impl_RuleOk.l0] at H
      by_cases c9:x4_2 < (t243.size:Int)
      ·rw [if_pos c9] at H
       have c9b0:decide (x4_2 < (t243.size:Int)) = true:=decide_eq_true c9
       clear c9
       by_cases c10:0 ≤ x4_2
       ·rw [if_pos c10] at H
        have c10b0:decide (0 ≤ x4_2) = true:=decide_eq_true c10
        clear c10
        replace H:=Option.bind_eq_some_iff.mp H
        obtain ⟨t244,A120,H⟩:=H
        replace H:(if t244 = true then (impl_RuleOk.l0 k2 t243 (wrap64 (x4_2 + 1))) else (some false)) = some r:=H
        have A12:=Aside0.mk A120
        clear A120
        by_cases c13:t244 = true
        ·subst c13
         have H1:(impl_RuleOk.l0 k2 t243 (wrap64 (x4_2 + 1))) = some r:=by rw [if_pos rfl] at H;exact H
         clear H
         have H:=H1
         clear H1
         have H':=Aside0.mk H
         clear H
         have p11:0 ≤ (x4_2:Int):=of_decide_eq_true (by first|(with_reducible assumption)|assumption)
         have q11:x4_2 < (t243.size:Int):=of_decide_eq_true (by first|(with_reducible assumption)|assumption)
         have hx11:=bt_at t243 x4_2
         replace p11:=eq_true p11
         replace q11:=eq_true q11
         go_wp2_with (first|((with_reducible refine gate_callee (f:=69) rfl ?_);refine goesL_ (some 29) rfl rfl Try.func69 (by kernel_rfl) rfl #[.int .u8 (bt t243 x4_2)] rfl (by (try simp only [List.map_toArray,List.map_cons,List.map_nil]);first|done|rfl|(simp only [List.length_drop,List.length_take];rfl)) ?_;(with_reducible refine (impl_isPatternByte.calls (bt t243 x4_2) true _ A12.out).mono ?_);rintro e w' ⟨rfl,⟨nd,rfl⟩⟩;refine ⟨_,rfl,?_⟩))
         go_roundg k2
         case measure=>have:=HJ1.out;have:=HK2.out;omega
         case rel=>exact ⟨(wrap64 (x4_2 + 1)),(by first|rfl|(simp;done)|(simp only [i64_w,i32_w];done)|(simp only [i64_w,i32_w];rfl)|(simp [*];done)|(simp [emp_bne,emp_beq];done)),H',⟨by have:=HJ1.out;have:=HK2.out;omega⟩,by repeat (first|exact Drawn0.refl _|apply Drawn0.step)⟩
        ·replace c13:=Bool.eq_false_iff.mpr c13
         subst c13
         have H1:(some false) = some r:=by rw [if_neg (show ¬ (false = true) by decide)] at H;exact H
         clear H
         have H:=H1
         clear H1
         obtain rfl:=Option.some.inj H
         have p11:0 ≤ (x4_2:Int):=of_decide_eq_true (by first|(with_reducible assumption)|assumption)
         have q11:x4_2 < (t243.size:Int):=of_decide_eq_true (by first|(with_reducible assumption)|assumption)
         have hx11:=bt_at t243 x4_2
         replace p11:=eq_true p11
         replace q11:=eq_true q11
         go_wp2_with (first|((with_reducible refine gate_callee (f:=69) rfl ?_);refine goesL_ (some 29) rfl rfl Try.func69 (by kernel_rfl) rfl #[.int .u8 (bt t243 x4_2)] rfl (by (try simp only [List.map_toArray,List.map_cons,List.map_nil]);first|done|rfl|(simp only [List.length_drop,List.length_take];rfl)) ?_;(with_reducible refine (impl_isPatternByte.calls (bt t243 x4_2) false _ A12.out).mono ?_);rintro e w' ⟨rfl,⟨nd,rfl⟩⟩;refine ⟨_,rfl,?_⟩))
         go_ret
         exact ⟨by first|rfl|(simp;done)|(simp only [i64_w,i32_w];done)|(simp only [i64_w,i32_w];rfl)|(simp [*];done)|(simp [emp_bne,emp_beq];done),by repeat (first|exact Drawn0.refl _|apply Drawn0.step)⟩
       ·rw [if_neg c10] at H
        exact absurd H (by simp)
      ·rw [if_neg c9] at H
       have c9b0:decide (x4_2 < (t243.size:Int)) = false:=decide_eq_false c9
       clear c9
       obtain rfl:=Option.some.inj H
       go_wp2
       go_ret
       exact ⟨by first|rfl|(simp;done)|(simp only [i64_w,i32_w];done)|(simp only [i64_w,i32_w];rfl)|(simp [*];done)|(simp [emp_bne,emp_beq];done),by repeat (first|exact Drawn0.refl _|apply Drawn0.step)⟩

end Go.Proofs.Ytheakfegchndcaa.P
