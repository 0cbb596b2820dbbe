-- Written by a program of this session (patch_print.py over the kit's print; given texts in wip/given).
import Derived.Test.YtochmlkladpfgaaDoorPx0
namespace Go.Proofs.YtochmlkladpfgaaDoor.P
open Go.RowKit Go.Proofs.YtochmlkladpfgaaDoorW.PrintWords Go.Proofs.YtochmlkladpfgaaDoorW.PrintLast Go.Proofs.YtochmlkladpfgaaDoorW.PrintMore
attribute [local go_sem] max2_int min2_int max_two min_two max_three min_three max_four min_four   -- for this text's walks alone
set_option linter.unusedVariables false
set_option linter.unusedSimpArgs false
set_option maxHeartbeats 8000000
set_option maxRecDepth 100000

/-! ### stringslite_Index: function 56 -/
/-- Where a text of one byte stands first; -1, if it does not. (Of longer ones nothing is told.) -/
def stringslite_Index.f (a0 a1:ByteArray):Option Int:=if a1.size = 1 then some (Go.Lib.indexByte a0.data.toList (a1.data.toList.headD 0)) else none
set_option maxHeartbeats 1000000 in
set_option maxRecDepth 100000 in
theorem stringslite_Index.byte (a0:ByteArray) (a1:Int) (w:World) :
  Calls Tryd.prog 73 #[.string a0,.int .u8 a1] w fun e w'=>e = .returned (.int .i64 (Go.Lib.indexByte a0.data.toList a1.toNat.toUInt8)) ∧ ∃ nd,w' = w.drewN nd:=by
 go_enter Tryd.func73,Tryd.ntmps73
 go_wp2
 rw [run_callFunc_extern Tryd.func85 (by kernel_rfl) (by kernel_rfl) (by kernel_rfl) (e:=Extern.BytealgIndexByte.indexByte) (by kernel_rfl),Go.Lib.run_indexByteString]
 simp only [Result.andThen]
 rw [Oper.upon_value]
 go_wp2
 go_ret
 exact ⟨rfl,0,rfl⟩
set_option maxHeartbeats 1000000 in
set_option maxRecDepth 100000 in
theorem stringslite_Index.calls (a0 a1:ByteArray) (r:Int) (w:World) (h:stringslite_Index.f a0 a1 = some r) :
  Calls Tryd.prog 56 #[.string a0,.string a1] w fun e w'=>e = .returned (.int .i64 r) ∧ ∃ nd,w' = w.drewN nd:=by
 unfold stringslite_Index.f at h
 split at h
 rotate_left
 ·cases h
 rename_i hs
 obtain rfl:=Option.some.inj h
 clear h
 have HH:=Aside0.mk (show ∀ h:0 < a1.size,(a1[0]'h) = a1.data.toList.headD 0 by
  obtain ⟨c,rfl⟩:=Go.Lib.one_byte a1 hs
  intro _;rfl)
 have HZ:=Aside0.mk (show a1.toList = a0.toList → Go.Lib.indexByte a0.data.toList (a1.data.toList.headD 0) = 0 by
  intro e
  obtain ⟨c,rfl⟩:=Go.Lib.one_byte a1 hs
  rw [Go.ByteArray.toList_eq,Go.ByteArray.toList_eq] at e
  rw [← e]
  simp [Go.Lib.indexByte])
 have h0:(((a1.size:Nat):Int) == 0) = false:=by rw [hs];rfl
 have h1:(((a1.size:Nat):Int) == 1) = true:=by rw [hs];rfl
 have hlt:0 < a1.size:=by omega
 generalize hx:a1.data.toList.headD 0 = x at HH HZ ⊢
 clear hs hx
 by_cases e:a1.toList = a0.toList
 ·have hb:(a1.toList == a0.toList) = true:=beq_iff_eq.mpr e
  have HR:=Aside0.mk (HZ.out e)
  clear e HZ HH
  go_enter Tryd.func56,Tryd.ntmps56
  go_wp2
  go_ret
  exact ⟨congrArg (fun n=>Ending.returned (Value.int IntKind.i64 n)) HR.out.symm,0,rfl⟩
 ·have hb:(a1.toList == a0.toList) = false:=beq_eq_false_iff_ne.mpr e
  clear e HZ
  go_enter Tryd.func56,Tryd.ntmps56
  go_wp2_with (go_at_call 73;refine (stringslite_Index.byte _ _ _).mono ?_;rintro e w' ⟨rfl,nd,rfl⟩)
  go_ret
  exact ⟨by rw [← HH.out hlt];simp,_,rfl⟩

/-! ### stringslite_Cut: function 40 -/
def stringslite_Cut.f (a0:ByteArray) (a1:ByteArray):Option (ByteArray × ByteArray × Bool):=(stringslite_Index.f a0 a1).bind fun t101=>(if t101 ≥ 0 then (if 0 ≤ t101 then (if t101 ≤ (a0.size:Int) then (if 0 ≤ (wrap64 (t101 + (a1.size:Int))) then (if (wrap64 (t101 + (a1.size:Int))) ≤ (a0.size:Int) then (some (a0.extract 0 (t101:Int).toNat,a0.extract ((wrap64 (t101 + (a1.size:Int))):Int).toNat a0.size,true)) else (none)) else (none)) else (none)) else (none)) else (some (a0,(⟨#[]⟩:ByteArray),false)))
theorem stringslite_Cut.calls (a0:ByteArray) (a1:ByteArray) (r1:ByteArray) (r2:ByteArray) (r3:Bool) (w:World) (h:stringslite_Cut.f a0 a1 = some (r1,r2,r3)) :
  Calls Tryd.prog 40 #[.string a0,.string a1] w fun e w'=>e = .returned (.tuple #[.string r1,.string r2,.bool r3]) ∧ Drawn0 w w':=by
 have H:((stringslite_Index.f a0 a1).bind fun t101=>(if t101 ≥ 0 then (if 0 ≤ t101 then (if t101 ≤ (a0.size:Int) then (if 0 ≤ (wrap64 (t101 + (a1.size:Int))) then (if (wrap64 (t101 + (a1.size:Int))) ≤ (a0.size:Int) then (some (a0.extract 0 (t101:Int).toNat,a0.extract ((wrap64 (t101 + (a1.size:Int))):Int).toNat a0.size,true)) else (none)) else (none)) else (none)) else (none)) else (some (a0,(⟨#[]⟩:ByteArray),false)))) = some (r1,r2,r3):=h
 clear h
 replace H:=Option.bind_eq_some_iff.mp H
 obtain ⟨t101,A30,H⟩:=H
 replace H:(if t101 ≥ 0 then (if 0 ≤ t101 then (if t101 ≤ (a0.size:Int) then (if 0 ≤ (wrap64 (t101 + (a1.size:Int))) then (if (wrap64 (t101 + (a1.size:Int))) ≤ (a0.size:Int) then (some (a0.extract 0 (t101:Int).toNat,a0.extract ((wrap64 (t101 + (a1.size:Int))):Int).toNat a0.size,true)) else (none)) else (none)) else (none)) else (none)) else (some (a0,(⟨#[]⟩:ByteArray),false))) = some (r1,r2,r3):=H
 have A3:=Aside0.mk A30
 clear A30
 by_cases c4:t101 ≥ 0
 ·rw [if_pos c4] at H
  have c4b0:decide (0 ≤ t101) = true:=decide_eq_true c4
  clear c4
  by_cases c5:0 ≤ t101
  ·rw [if_pos c5] at H
   have c5b0:=eq_true c5
   have c5b1:=decide_eq_true c5
   clear c5
   by_cases c6:t101 ≤ (a0.size:Int)
   ·rw [if_pos c6] at H
    have c6b0:=eq_true c6
    have c6b1:=decide_eq_true c6
    clear c6
    obtain ⟨ji7,hji7⟩:∃ j_:Int,(wrap64 (t101 + (a1.size:Int))) = j_:=⟨_,rfl⟩
    replace H:(if 0 ≤ (ji7) then (if (ji7) ≤ (a0.size:Int) then (some (a0.extract 0 (t101:Int).toNat,a0.extract ((ji7):Int).toNat a0.size,true)) else (none)) else (none)) = some (r1,r2,r3):=by first|(rw [hji7] at H;exact H)|(simp only [hji7] at H ⊢;exact H)
    (try rw [hji7] at A3)
    have hji7w:(IntKind.i64.wrap (t101 + (a1.size:Int))) = ji7:=(i64_w _).trans hji7
    by_cases c8:0 ≤ (ji7)
    ·rw [if_pos c8] at H
     have c8b0:=eq_true c8
     have c8b1:=decide_eq_true c8
     clear c8
     by_cases c9:(ji7) ≤ (a0.size:Int)
     ·rw [if_pos c9] at H
      have c9b0:=eq_true c9
      have c9b1:=decide_eq_true c9
      clear c9
      simp only [Option.some.injEq,Prod.mk.injEq] at H
      obtain ⟨rfl,rfl,rfl⟩:=H
      go_enter Tryd.func40,Tryd.ntmps40
      go_wp2_with (first|(go_at_call 56;(with_reducible refine (stringslite_Index.calls a0 a1 t101 _ A3.out).mono ?_);rintro e w' ⟨rfl,⟨nd,rfl⟩⟩;(try first|exact ⟨rfl,_,World.drewN_drewN _ _ _⟩|exact ⟨rfl,_,Eq.trans (World.drewN_drewN _ _ _) (congrArg (World.drewN _) (Nat.add_assoc _ _ _))⟩)))
      repeat (go_quiet (first|(go_at_call 56;(with_reducible refine (stringslite_Index.calls a0 a1 t101 _ A3.out).mono ?_);rintro e w' ⟨rfl,⟨nd,rfl⟩⟩;(try first|exact ⟨rfl,_,World.drewN_drewN _ _ _⟩|exact ⟨rfl,_,Eq.trans (World.drewN_drewN _ _ _) (congrArg (World.drewN _) (Nat.add_assoc _ _ _))⟩)));try go_wp2_with (first|(go_at_call 56;(with_reducible refine (stringslite_Index.calls a0 a1 t101 _ A3.out).mono ?_);rintro e w' ⟨rfl,⟨nd,rfl⟩⟩;(try first|exact ⟨rfl,_,World.drewN_drewN _ _ _⟩|exact ⟨rfl,_,Eq.trans (World.drewN_drewN _ _ _) (congrArg (World.drewN _) (Nat.add_assoc _ _ _))⟩))))
      go_ret3
      exact ⟨by first|rfl|(simp only [i64_w,i32_w];done)|(simp only [i64_w,i32_w];rfl)|(simp;done)|(simp only [← hji7] <;> (first|rfl|simp))|(simp [*];done),by repeat (first|exact Drawn0.refl _|apply Drawn0.step)⟩
     ·rw [if_neg c9] at H
      exact absurd H (by simp)
    ·rw [if_neg c8] at H
     exact absurd H (by simp)
   ·rw [if_neg c6] at H
    exact absurd H (by simp)
  ·rw [if_neg c5] at H
   exact absurd H (by simp)
 ·rw [if_neg c4] at H
  have c4b0:decide (0 ≤ t101) = false:=decide_eq_false c4
  clear c4
  simp only [Option.some.injEq,Prod.mk.injEq] at H
  obtain ⟨rfl,rfl,rfl⟩:=H
  go_enter Tryd.func40,Tryd.ntmps40
  go_wp2_with (first|(go_at_call 56;(with_reducible refine (stringslite_Index.calls a0 a1 t101 _ A3.out).mono ?_);rintro e w' ⟨rfl,⟨nd,rfl⟩⟩;(try first|exact ⟨rfl,_,World.drewN_drewN _ _ _⟩|exact ⟨rfl,_,Eq.trans (World.drewN_drewN _ _ _) (congrArg (World.drewN _) (Nat.add_assoc _ _ _))⟩)))
  repeat (go_quiet (first|(go_at_call 56;(with_reducible refine (stringslite_Index.calls a0 a1 t101 _ A3.out).mono ?_);rintro e w' ⟨rfl,⟨nd,rfl⟩⟩;(try first|exact ⟨rfl,_,World.drewN_drewN _ _ _⟩|exact ⟨rfl,_,Eq.trans (World.drewN_drewN _ _ _) (congrArg (World.drewN _) (Nat.add_assoc _ _ _))⟩)));try go_wp2_with (first|(go_at_call 56;(with_reducible refine (stringslite_Index.calls a0 a1 t101 _ A3.out).mono ?_);rintro e w' ⟨rfl,⟨nd,rfl⟩⟩;(try first|exact ⟨rfl,_,World.drewN_drewN _ _ _⟩|exact ⟨rfl,_,Eq.trans (World.drewN_drewN _ _ _) (congrArg (World.drewN _) (Nat.add_assoc _ _ _))⟩))))
  go_ret3
  exact ⟨by first|rfl|(simp;done)|(simp only [i64_w,i32_w];done)|(simp only [i64_w,i32_w];rfl)|(simp [*];done)|(simp [emp_bne,emp_beq];done),by repeat (first|exact Drawn0.refl _|apply Drawn0.step)⟩

/-! ### strings_Cut: function 21 -/
def strings_Cut.f (a0:ByteArray) (a1:ByteArray):Option (ByteArray × ByteArray × Bool):=(stringslite_Cut.f a0 a1).bind fun bt102=>(some (bt102.1,bt102.2.1,bt102.2.2))
theorem strings_Cut.calls (a0:ByteArray) (a1:ByteArray) (r1:ByteArray) (r2:ByteArray) (r3:Bool) (w:World) (h:strings_Cut.f a0 a1 = some (r1,r2,r3)) :
  Calls Tryd.prog 21 #[.string a0,.string a1] w fun e w'=>e = .returned (.tuple #[.string r1,.string r2,.bool r3]) ∧ Drawn0 w w':=by
 have H:((stringslite_Cut.f a0 a1).bind fun bt102=>(some (bt102.1,bt102.2.1,bt102.2.2))) = some (r1,r2,r3):=h
 clear h
 replace H:=Option.bind_eq_some_iff.mp H
 obtain ⟨⟨t102,t103,t104⟩,A30,H⟩:=H
 replace H:(some (t102,t103,t104)) = some (r1,r2,r3):=H
 have A3:=Aside0.mk A30
 clear A30
 simp only [Option.some.injEq,Prod.mk.injEq] at H
 obtain ⟨rfl,rfl,rfl⟩:=H
 go_enter Tryd.func21,Tryd.ntmps21
 go_wp2_with (first|((with_reducible refine gate_callee (f:=40) rfl ?_);refine goesL_ (some 9) rfl rfl Tryd.func40 (by kernel_rfl) rfl #[.string a0,.string a1] rfl (by (try simp only [List.map_toArray,List.map_cons,List.map_nil]);first|done|rfl|(simp only [List.length_drop,List.length_take];rfl)) ?_;(with_reducible refine (stringslite_Cut.calls a0 a1 t102 t103 t104 _ A3.out).mono ?_);rintro e w' ⟨rfl,⟨nd,rfl⟩⟩;refine ⟨_,rfl,?_⟩))
 go_ret3
 exact ⟨by first|rfl|(simp;done)|(simp only [i64_w,i32_w];done)|(simp only [i64_w,i32_w];rfl)|(simp [*];done)|(simp [emp_bne,emp_beq];done),by repeat (first|exact Drawn0.refl _|apply Drawn0.step)⟩

/-! ### stringslite_HasPrefix: function 77 -/
def stringslite_HasPrefix.f (a0:ByteArray) (a1:ByteArray):Option (Bool):=if (a0.size:Int) ≥ (a1.size:Int) then (if 0 ≤ (a1.size:Int) then (if (a1.size:Int) ≤ (a0.size:Int) then (some ((a0.extract 0 ((a1.size:Int):Int).toNat).toList == a1.toList)) else (none)) else (none)) else (some false)
theorem stringslite_HasPrefix.calls (a0:ByteArray) (a1:ByteArray) (r:Bool) (w:World) (h:stringslite_HasPrefix.f a0 a1 = some r) :
  Calls Tryd.prog 77 #[.string a0,.string a1] w fun e w'=>e = .returned (.bool r) ∧ Drawn0 w w':=by
 have H:(if (a0.size:Int) ≥ (a1.size:Int) then (if 0 ≤ (a1.size:Int) then (if (a1.size:Int) ≤ (a0.size:Int) then (some ((a0.extract 0 ((a1.size:Int):Int).toNat).toList == a1.toList)) else (none)) else (none)) else (some false)) = some r:=h
 clear h
 by_cases c3:(a0.size:Int) ≥ (a1.size:Int)
 ·rw [if_pos c3] at H
  have c3b0:decide ((a1.size:Int) ≤ (a0.size:Int)) = true:=decide_eq_true c3
  have c3b1:decide (a1.size ≤ a0.size) = true:=decide_eq_true (Int.ofNat_le.mp c3)
  clear c3
  by_cases c4:0 ≤ (a1.size:Int)
  ·rw [if_pos c4] at H
   have c4b0:=eq_true c4
   have c4b1:=decide_eq_true c4
   clear c4
   by_cases c5:(a1.size:Int) ≤ (a0.size:Int)
   ·rw [if_pos c5] at H
    have c5b0:=eq_true c5
    have c5b1:=decide_eq_true c5
    clear c5
    obtain rfl:=Option.some.inj H
    go_enter Tryd.func77,Tryd.ntmps77
    go_wp2
    go_ret
    exact ⟨by first|rfl|(simp;done)|(simp only [i64_w,i32_w];done)|(simp only [i64_w,i32_w];rfl)|(simp [*];done)|(simp [emp_bne,emp_beq];done),by repeat (first|exact Drawn0.refl _|apply Drawn0.step)⟩
   ·rw [if_neg c5] at H
    exact absurd H (by simp)
  ·rw [if_neg c4] at H
   exact absurd H (by simp)
 ·rw [if_neg c3] at H
  have c3b0:decide ((a1.size:Int) ≤ (a0.size:Int)) = false:=decide_eq_false c3
  have c3b1:decide (a1.size ≤ a0.size) = false:=decide_eq_false (fun h=>c3 (Int.ofNat_le.mpr h))
  clear c3
  obtain rfl:=Option.some.inj H
  go_enter Tryd.func77,Tryd.ntmps77
  go_wp2
  go_ret
  exact ⟨by first|rfl|(simp;done)|(simp only [i64_w,i32_w];done)|(simp only [i64_w,i32_w];rfl)|(simp [*];done)|(simp [emp_bne,emp_beq];done),by repeat (first|exact Drawn0.refl _|apply Drawn0.step)⟩

/-! ### stringslite_CutPrefix: function 57 -/
def stringslite_CutPrefix.f (a0:ByteArray) (a1:ByteArray):Option (ByteArray × Bool):=(stringslite_HasPrefix.f a0 a1).bind fun t105=>(if t105 = true then (if 0 ≤ (a1.size:Int) then (if (a1.size:Int) ≤ (a0.size:Int) then (some (a0.extract ((a1.size:Int):Int).toNat a0.size,true)) else (none)) else (none)) else (some (a0,false)))
theorem stringslite_CutPrefix.calls (a0:ByteArray) (a1:ByteArray) (r1:ByteArray) (r2:Bool) (w:World) (h:stringslite_CutPrefix.f a0 a1 = some (r1,r2)) :
  Calls Tryd.prog 57 #[.string a0,.string a1] w fun e w'=>e = .returned (.tuple #[.string r1,.bool r2]) ∧ Drawn0 w w':=by
 have H:((stringslite_HasPrefix.f a0 a1).bind fun t105=>(if t105 = true then (if 0 ≤ (a1.size:Int) then (if (a1.size:Int) ≤ (a0.size:Int) then (some (a0.extract ((a1.size:Int):Int).toNat a0.size,true)) else (none)) else (none)) else (some (a0,false)))) = some (r1,r2):=h
 clear h
 replace H:=Option.bind_eq_some_iff.mp H
 obtain ⟨t105,A30,H⟩:=H
 replace H:(if t105 = true then (if 0 ≤ (a1.size:Int) then (if (a1.size:Int) ≤ (a0.size:Int) then (some (a0.extract ((a1.size:Int):Int).toNat a0.size,true)) else (none)) else (none)) else (some (a0,false))) = some (r1,r2):=H
 have A3:=Aside0.mk A30
 clear A30
 by_cases c4:t105 = true
 ·subst c4
  have H1:(if 0 ≤ (a1.size:Int) then (if (a1.size:Int) ≤ (a0.size:Int) then (some (a0.extract ((a1.size:Int):Int).toNat a0.size,true)) else (none)) else (none)) = some (r1,r2):=by rw [if_pos rfl] at H;exact H
  clear H
  have H:=H1
  clear H1
  by_cases c5:0 ≤ (a1.size:Int)
  ·rw [if_pos c5] at H
   have c5b0:=eq_true c5
   have c5b1:=decide_eq_true c5
   clear c5
   by_cases c6:(a1.size:Int) ≤ (a0.size:Int)
   ·rw [if_pos c6] at H
    have c6b0:=eq_true c6
    have c6b1:=decide_eq_true c6
    clear c6
    simp only [Option.some.injEq,Prod.mk.injEq] at H
    obtain ⟨rfl,rfl⟩:=H
    go_enter Tryd.func57,Tryd.ntmps57
    go_wp2_with (first|((with_reducible refine gate_callee (f:=77) rfl ?_);refine goesL_ (some 8) rfl rfl Tryd.func77 (by kernel_rfl) rfl #[.string a0,.string a1] rfl (by (try simp only [List.map_toArray,List.map_cons,List.map_nil]);first|done|rfl|(simp only [List.length_drop,List.length_take];rfl)) ?_;(with_reducible refine (stringslite_HasPrefix.calls a0 a1 true _ A3.out).mono ?_);rintro e w' ⟨rfl,⟨nd,rfl⟩⟩;refine ⟨_,rfl,?_⟩))
    go_ret2
    exact ⟨by first|rfl|(simp;done)|(simp only [i64_w,i32_w];done)|(simp only [i64_w,i32_w];rfl)|(simp [*];done)|(simp [emp_bne,emp_beq];done),by repeat (first|exact Drawn0.refl _|apply Drawn0.step)⟩
   ·rw [if_neg c6] at H
    exact absurd H (by simp)
  ·rw [if_neg c5] at H
   exact absurd H (by simp)
 ·replace c4:=Bool.eq_false_iff.mpr c4
  subst c4
  have H1:(some (a0,false)) = some (r1,r2):=by rw [if_neg (show ¬ (false = true) by decide)] at H;exact H
  clear H
  have H:=H1
  clear H1
  simp only [Option.some.injEq,Prod.mk.injEq] at H
  obtain ⟨rfl,rfl⟩:=H
  go_enter Tryd.func57,Tryd.ntmps57
  go_wp2_with (first|((with_reducible refine gate_callee (f:=77) rfl ?_);refine goesL_ (some 8) rfl rfl Tryd.func77 (by kernel_rfl) rfl #[.string a0,.string a1] rfl (by (try simp only [List.map_toArray,List.map_cons,List.map_nil]);first|done|rfl|(simp only [List.length_drop,List.length_take];rfl)) ?_;(with_reducible refine (stringslite_HasPrefix.calls a0 a1 false _ A3.out).mono ?_);rintro e w' ⟨rfl,⟨nd,rfl⟩⟩;refine ⟨_,rfl,?_⟩))
  go_ret2
  exact ⟨by first|rfl|(simp;done)|(simp only [i64_w,i32_w];done)|(simp only [i64_w,i32_w];rfl)|(simp [*];done)|(simp [emp_bne,emp_beq];done),by repeat (first|exact Drawn0.refl _|apply Drawn0.step)⟩

/-! ### strings_CutPrefix: function 41 -/
def strings_CutPrefix.f (a0:ByteArray) (a1:ByteArray):Option (ByteArray × Bool):=(stringslite_CutPrefix.f a0 a1).bind fun bt106=>(some (bt106.1,bt106.2))
theorem strings_CutPrefix.calls (a0:ByteArray) (a1:ByteArray) (r1:ByteArray) (r2:Bool) (w:World) (h:strings_CutPrefix.f a0 a1 = some (r1,r2)) :
  Calls Tryd.prog 41 #[.string a0,.string a1] w fun e w'=>e = .returned (.tuple #[.string r1,.bool r2]) ∧ Drawn0 w w':=by
 have H:((stringslite_CutPrefix.f a0 a1).bind fun bt106=>(some (bt106.1,bt106.2))) = some (r1,r2):=h
 clear h
 replace H:=Option.bind_eq_some_iff.mp H
 obtain ⟨⟨t106,t107⟩,A30,H⟩:=H
 replace H:(some (t106,t107)) = some (r1,r2):=H
 have A3:=Aside0.mk A30
 clear A30
 simp only [Option.some.injEq,Prod.mk.injEq] at H
 obtain ⟨rfl,rfl⟩:=H
 go_enter Tryd.func41,Tryd.ntmps41
 go_wp2_with (first|((with_reducible refine gate_callee (f:=57) rfl ?_);refine goesL_ (some 8) rfl rfl Tryd.func57 (by kernel_rfl) rfl #[.string a0,.string a1] rfl (by (try simp only [List.map_toArray,List.map_cons,List.map_nil]);first|done|rfl|(simp only [List.length_drop,List.length_take];rfl)) ?_;(with_reducible refine (stringslite_CutPrefix.calls a0 a1 t106 t107 _ A3.out).mono ?_);rintro e w' ⟨rfl,⟨nd,rfl⟩⟩;refine ⟨_,rfl,?_⟩))
 go_ret2
 exact ⟨by first|rfl|(simp;done)|(simp only [i64_w,i32_w];done)|(simp only [i64_w,i32_w];rfl)|(simp [*];done)|(simp [emp_bne,emp_beq];done),by repeat (first|exact Drawn0.refl _|apply Drawn0.step)⟩

/-! ### strings_IndexAny: function 42 -/
/-- Where a stroke or a question mark stands first; -1, if there is none. (Of other letters nothing is told.) -/
def strings_IndexAny.f (a0 a1:ByteArray):Option Int:=if a1.data.toList = [47,63] ∧ a0.size ≤ 1000000 then some (Go.Lib.indexAny a0.data.toList [47,63]) else none
def strings_IndexAny.two:ByteArray:=⟨#[47,63]⟩
theorem strings_IndexAny.two_size:strings_IndexAny.two.size = 2:=rfl
theorem strings_IndexAny.two_at (p:Nat) (h:p < 2):Utf8.decode strings_IndexAny.two p = ((if p = 0 then 47 else 63),1):=by
 have hc:p = 0 ∨ p = 1:=by omega
 rcases hc with rfl|rfl <;> rfl
set_option maxHeartbeats 2000000 in
set_option maxRecDepth 100000 in
theorem strings_IndexAny.bad (w:World) :
  Calls Tryd.prog 58 #[.string strings_IndexAny.two,.int .i32 65533] w fun e w'=>e = .returned (.int .i64 (-1)) ∧ Below w.heap.size w w':=by
 have HX:=Aside0.mk (fun (p:Nat) (ty:TypeId) (hp:p < strings_IndexAny.two.size)=>run_next_any (P:=Tryd.prog) w strings_IndexAny.two p ty hp)
 have HE:=Aside0.mk (fun (p:Nat) (ty:TypeId) (hp:¬ p < strings_IndexAny.two.size)=>run_next_end (P:=Tryd.prog) w strings_IndexAny.two p ty hp)
 go_enter Tryd.func58,Tryd.ntmps58
 go_wp2
 go_loopw [] (fun w'=>∃ p:Nat,p ≤ 2 ∧ w' = w.iter strings_IndexAny.two p) (fun w'=>2 - w'.iterPos w.heap.size)
 case atStart=>exact ⟨0,Nat.zero_le _,rfl⟩
 case round =>
  obtain ⟨p,hp,rfl⟩:=hrel
  by_cases hlt:p < 2
  ·obtain ⟨q,hq0,hq1,hq⟩:∃ q:Nat,1 ≤ q ∧ q ≤ 100 ∧ Utf8.decode strings_IndexAny.two p = (q,1):=⟨_,by split <;> omega,by split <;> omega,strings_IndexAny.two_at p hlt⟩
   have hx:∀ ty,(Instr.next (.pointer (some ⟨w.heap.size,0,none⟩)) true ty).run Tryd.prog (w.iter strings_IndexAny.two p) = .ok (.tuple #[.bool true,.int .i64 p,.int .i32 q]) (w.iter strings_IndexAny.two (p + 1)):=fun ty=>by
    rw [HX.out p ty hlt,hq]
   have hd:((q:Int) == 65533) = false:=beq_eq_false_iff_ne.mpr (by omega)
   clear hq hq0 hq1
   go_wp2
   go_roundw
   case rel=>exact ⟨p + 1,by omega,rfl⟩
   case measure=>simp;omega
  ·obtain rfl:p = 2:=by omega
   have hx:=fun ty=>HE.out 2 ty (by decide)
   go_wp2
   go_ret
   exact ⟨rfl,below_alloc (Below.refl _ _) _⟩
theorem strings_IndexAny.rest (x:Int) (W:World):Calls Tryd.prog 78 #[.string (strings_IndexAny.two.extract 2 2),.int .u8 x] W fun e w'=>e = .returned (.int .i64 (-1)) ∧ w' = W :=
 Tryd.strings_IndexByte _ x W
theorem strings_IndexAny.later {f:FuncId} {args:Array Value} {w:World} {a n:Nat} {v:Value} (h:Calls Tryd.prog f args (w.drewN (a + n)) fun e w'=>e = .returned v ∧ w' = w.drewN (a + n)) :
  Calls Tryd.prog f args (w.drewN (a + n)) fun e w''=>e = .returned v ∧ ∃ m,w'' = w.drewN (a + m) :=
 h.mono fun _ _ ⟨he,hm⟩=>⟨he,n,hm⟩
set_option maxHeartbeats 2000000 in
set_option maxRecDepth 100000 in
theorem strings_IndexAny.rune (r:Int) (w:World) (h0:128 ≤ r) (h1:r ≤ 1114111) (h2:r < 55296 ∨ 57343 < r) :
  Calls Tryd.prog 58 #[.string strings_IndexAny.two,.int .i32 r] w fun e w'=>e = .returned (.int .i64 (-1)) ∧ Below w.heap.size w w':=by
 by_cases hb:r = 65533
 ·subst hb;exact strings_IndexAny.bad w
 have hd:(r == 65533) = false:=beq_eq_false_iff_ne.mpr hb
 have hv:Go.Lib.validRune r = true:=by unfold Go.Lib.validRune;exact decide_eq_true (by omega)
 have hv2:Utf8.valid r = true:=by
  unfold Utf8.valid
  simp only [Bool.or_eq_true,Bool.and_eq_true,decide_eq_true_eq]
  omega
 obtain ⟨hs2,hs4,hs1⟩:=encode_facts r hv2 h0
 obtain ⟨s,hs⟩:∃ s,Utf8.encode r = s:=⟨_,rfl⟩
 rw [hs] at hs2 hs4
 have hs3:∀ h:s.size - 1 < s.size,128 ≤ (s[s.size - 1]'h).toNat:=by subst hs;exact hs1
 have hl:¬ r < 128:=by omega
 have hge:(0:Int) ≤ r:=by omega
 have HV:=Aside0.mk hv
 have H1:=Aside0.mk hs3
 clear hv hv2 hb h2 h1 h0 hs1 hs3
 have ht:=strings_IndexAny.two_size
 by_cases c:s.size = 2
 ·have hlt1:1 < s.size:=by omega
  have htl:1 < strings_IndexAny.two.size:=by decide
  have h63:strings_IndexAny.two[1]'htl = 63:=rfl
  have hlast:128 ≤ (s[1]'hlt1).toNat:=by
   have:=H1.out (by omega)
   have e:s.size - 1 = 1:=by omega
   simpa only [e] using this
  have hne:((63:Int) == ((s[1]'hlt1).toNat:Int)) = false:=beq_eq_false_iff_ne.mpr (by omega)
  have hne2:((63:Int) != ((s[1]'hlt1).toNat:Int)) = true:=bne_iff_ne.mpr (by omega)
  have h63n:((strings_IndexAny.two[1]'htl).toNat:Int) = 63:=rfl
  clear H1 hlast hs2 hs4 h63
  go_enter Tryd.func58,Tryd.ntmps58
  go_wp2_with (go_at_call 79;refine (Tryd.utf8_ValidRune _ _).mono ?_;rintro e w' ⟨rfl,hw⟩;rw [hw,HV.out])
  go_step3
  go_wp2
  refine wp_loop_rounds 1 ?_
  rw [rounds_succ]
  go_wp2
  go_step3
  go_wp2
  go_quiet (fail)
  go_wp2
  go_quiet ((go_at_call 78;exact strings_IndexAny.later (strings_IndexAny.rest _ _)))
  go_wp2
  rw [Exit.noGoto_ret]
  go_wp2
  rw [Exit.noGoto_ret]
  go_ret
  exact ⟨rfl,pw_below_drewN (Below.refl _ _) _⟩
 ·have c3:(2:Int) ≤ (s.size:Int) - 1:=by omega
  clear c
  go_enter Tryd.func58,Tryd.ntmps58
  go_wp2_with (go_at_call 79;refine (Tryd.utf8_ValidRune _ _).mono ?_;rintro e w' ⟨rfl,hw⟩;rw [hw,HV.out])
  go_step3
  go_wp2
  refine wp_loop_rounds 1 ?_
  rw [rounds_succ]
  go_wp2
  rw [Exit.noGoto_ret]
  go_ret
  exact ⟨rfl,Below.refl _ _⟩
theorem strings_IndexAny.get (s:ByteArray) (j:Nat) (h:j < s.size):s.data.toList[j]? = some (s.get! j):=by
 rw [Go.Lib.data_getElem? s j h]
 congr 1
 exact (getElem!_pos s.data j h).symm
/-- What a letter that is no plain byte takes: bytes from 128 on. -/
theorem strings_IndexAny.dec (s:ByteArray) (i:Nat) (h:i < s.size) (hb:128 ≤ (s.get! i).toNat) :
  ∃ r n:Nat,Utf8.decode s i = (r,n) ∧ 128 ≤ r ∧ r ≤ 1114111 ∧ (r < 55296 ∨ 57343 < r) ∧ 1 ≤ n ∧ ∀ j,i ≤ j → j < i + n → j < s.size ∧ 128 ≤ (s.get! j).toNat:=by
 have one:∀ j,i ≤ j → j < i + 1 → j < s.size ∧ 128 ≤ (s.get! j).toNat:=fun j h1 h2=>by
  obtain rfl:j = i:=by omega
  exact ⟨h,hb⟩
 have bad:∃ r n:Nat,(Utf8.runeError,1) = (r,n) ∧ 128 ≤ r ∧ r ≤ 1114111 ∧ (r < 55296 ∨ 57343 < r) ∧ 1 ≤ n ∧ ∀ j,i ≤ j → j < i + n → j < s.size ∧ 128 ≤ (s.get! j).toNat :=
  ⟨_,_,rfl,by unfold Utf8.runeError;omega,by unfold Utf8.runeError;omega,.inr (by unfold Utf8.runeError;omega),Nat.le_refl _,one⟩
 have byte:∀ k,(s.get! k).toNat < 256:=fun k=>(s.get! k).toNat_lt
 unfold Utf8.decode
 simp only [Nat.add_zero]
 rw [if_neg (by omega)]
 have b0:=byte i
 split
 ·rename_i c
  simp only [Bool.and_eq_true,decide_eq_true_eq,beq_iff_eq] at c
  split
  ·refine ⟨_,_,rfl,by omega,by have:=byte (i + 1);omega,.inl (by omega),by omega,fun j h1 h2=>?_⟩
   rcases (by omega:j = i ∨ j = i + 1) with rfl|rfl
   ·exact ⟨h,hb⟩
   ·exact ⟨c.2.1,by omega⟩
  ·exact bad
 split
 ·rename_i c
  simp only [Bool.and_eq_true,decide_eq_true_eq,beq_iff_eq] at c
  split
  ·rename_i v
   simp only [Utf8.valid,Bool.and_eq_true,Bool.or_eq_true,decide_eq_true_eq] at v
   refine ⟨_,_,rfl,by omega,by omega,by omega,by omega,fun j h1 h2=>?_⟩
   rcases (by omega:j = i ∨ j = i + 1 ∨ j = i + 2) with rfl|rfl|rfl
   ·exact ⟨h,hb⟩
   ·exact ⟨c.1.2.1,by omega⟩
   ·exact ⟨c.2.1,by omega⟩
  ·exact bad
 split
 ·rename_i c
  simp only [Bool.and_eq_true,decide_eq_true_eq,beq_iff_eq] at c
  split
  ·rename_i v
   simp only [Utf8.valid,Bool.and_eq_true,Bool.or_eq_true,decide_eq_true_eq] at v
   refine ⟨_,_,rfl,by omega,by omega,by omega,by omega,fun j h1 h2=>?_⟩
   rcases (by omega:j = i ∨ j = i + 1 ∨ j = i + 2 ∨ j = i + 3) with rfl|rfl|rfl|rfl
   ·exact ⟨h,hb⟩
   ·exact ⟨c.1.1.2.1,by omega⟩
   ·exact ⟨c.1.2.1,by omega⟩
   ·exact ⟨c.2.1,by omega⟩
  ·exact bad
 ·exact bad
theorem strings_IndexAny.past (s:ByteArray) (i n:Nat) (hn:Go.Lib.NoAny s.data.toList [47,63] i) (hb:∀ j,i ≤ j → j < i + n → j < s.size ∧ 128 ≤ (s.get! j).toNat):Go.Lib.NoAny s.data.toList [47,63] (i + n):=by
 intro j b hj he
 by_cases c:j < i
 ·exact hn j b c he
 ·obtain ⟨h1,h2⟩:=hb j (by omega) hj
  rw [strings_IndexAny.get s j h1] at he
  obtain rfl:=Option.some.inj he
  have e1:¬ s.get! j = 47:=fun e=>by rw [e] at h2;exact absurd h2 (by decide)
  have e2:¬ s.get! j = 63:=fun e=>by rw [e] at h2;exact absurd h2 (by decide)
  simp [e1,e2]
theorem strings_IndexAny.plain (r:Int) (w:World) (h0:0 ≤ r) (h1:r < 128) :
  Calls Tryd.prog 58 #[.string strings_IndexAny.two,.int .i32 r] w fun e w'=>e = .returned (.int .i64 (if r = 47 then 0 else if r = 63 then 1 else -1)) ∧ w' = w:=by
 refine (Tryd.strings_IndexRune_ascii strings_IndexAny.two r w h0 h1).mono fun e w' ⟨he,hw⟩=>⟨?_,hw⟩
 rw [he]
 obtain ⟨n,rfl⟩:=Int.eq_ofNat_of_zero_le h0
 have hn:n < 128:=by omega
 show Ending.returned (Value.int .i64 (Go.Lib.indexByte [47,63] (n.toUInt8))) = _
 congr 2
 have key:∀ m:Fin 128,Go.Lib.indexByte [47,63] (m.val.toUInt8) = if (m.val:Int) = 47 then 0 else if (m.val:Int) = 63 then 1 else -1:=by decide
 exact key ⟨n,hn⟩
set_option maxHeartbeats 4000000 in
set_option maxRecDepth 100000 in
theorem strings_IndexAny.short (s:ByteArray) (w:World) (h8:s.size ≤ 8) :
  Calls Tryd.prog 42 #[.string s,.string strings_IndexAny.two] w fun e w'=>e = .returned (.int .i64 (Go.Lib.indexAny s.data.toList [47,63])) ∧ Below w.heap.size w w':=by
 have hemp:strings_IndexAny.two.toList.isEmpty = false:=by rw [Go.ByteArray.toList_eq];rfl
 have hn1:((strings_IndexAny.two.size:Int) == 1) = false:=rfl
 have h8z:decide ((8:Int) < (s.size:Int)) = false:=decide_eq_false (by omega)
 have HL:=Aside0.mk (show s.data.toList.length = s.size from (Go.Lib.size_eq s).symm)
 go_enter Tryd.func42,Tryd.ntmps42
 go_wp2_with (go_at_call 59;refine (Tryd.strings_shouldUseASCIISet _ _).mono ?_;rintro e w' ⟨rfl,hw⟩;rw [hw,h8z])
 clear h8z hemp hn1
 go_loopg [9,10] s.size (fun g _ _ wr=>∃ i:Nat,i + g = s.size ∧ wr.heap[w.heap.size]? = some (.stringIter s i) ∧ Aside0 (Below w.heap.size w wr) ∧ Aside0 (Go.Lib.NoAny s.data.toList [47,63] i))
 case atStart=>exact ⟨0,by omega,World.iter_heap w s 0,⟨below_alloc (Below.refl _ _) _⟩,⟨Go.Lib.NoAny.zero _ _⟩⟩
 case round =>
  obtain ⟨i,hig,hk,HB,HN⟩:=hrel
  have HK:=Aside0.mk hk
  have hsz:w.heap.size < wr.heap.size:=(Array.getElem?_eq_some_iff.1 hk).1
  by_cases hz:i < s.size
  rotate_left
  ·obtain rfl:i = s.size:=by omega
   have hnx:=fun ty=>Go.Lib.run_next_end_at (P:=Tryd.prog) wr w.heap.size s s.size ty HK.out (by omega)
   clear hk
   go_wp2
   go_ret
   exact ⟨by rw [Go.Lib.indexAny_none (by rw [HL.out];exact HN.out)];rfl,HB.out⟩
  by_cases hb:128 ≤ (s.get! i).toNat
  ·obtain ⟨r,n,hd,r0,r1,r2,n1,hall⟩:=strings_IndexAny.dec s i hz hb
   have hnx:∀ ty,(Instr.next (.pointer (some ⟨w.heap.size,0,none⟩)) true ty).run Tryd.prog wr = .ok (.tuple #[.bool true,.int .i64 i,.int .i32 r]) (wr.iterAt w.heap.size s (i + n)):=fun ty=>by
    rw [Go.Lib.run_next_any_at wr w.heap.size s i ty HK.out hz,hd]
   have HP:=Aside0.mk (strings_IndexAny.past s i n HN.out hall)
   have hin:i + n ≤ s.size:=by
    have:=(hall (i + n - 1) (by omega) (by omega)).1
    omega
   clear hk hd hall hb
   go_wp2_with (go_at_call 58;refine (strings_IndexAny.rune r _ (by omega) (by omega) (by omega)).mono ?_;rintro e w1 ⟨rfl,hbl⟩)
   go_roundg (s.size - (i + n))
   case measure=>omega
   case rel =>
    have hs2:(wr.iterAt w.heap.size s (i + n)).heap.size = wr.heap.size:=Go.Lib.iterAt_size _ _ _ _
    refine ⟨i + n,by omega,?_,⟨?_⟩,HP⟩
    ·rw [hbl.block w.heap.size (by rw [hs2];exact hsz)]
     exact Go.Lib.iterAt_heap _ _ _ _ _ HK.out
    ·exact below_then (Go.Lib.below_iterAt HB.out (Nat.le_refl _) s (i + n)) (by rw [hs2];omega) hbl
  ·obtain ⟨x,hx⟩:∃ x:UInt8,s[i]'hz = x:=⟨_,rfl⟩
   have hxl:s.data.toList[i]? = some x:=by rw [← hx];exact Go.Lib.data_getElem? s i hz
   have hx128:x.toNat < 128:=by
    have:=strings_IndexAny.get s i hz
    rw [hxl] at this
    obtain rfl:=Option.some.inj this
    omega
   have hnx:∀ ty,(Instr.next (.pointer (some ⟨w.heap.size,0,none⟩)) true ty).run Tryd.prog wr = .ok (.tuple #[.bool true,.int .i64 i,.int .i32 x.toNat]) (wr.iterAt w.heap.size s (i + 1)):=fun ty=>by
    rw [Go.Lib.run_next_ascii_at wr w.heap.size s i ty HK.out hz (by rw [hx];exact hx128),hx]
   have HX:=Aside0.mk hxl
   clear hk hx hxl hb
   by_cases h47:x.toNat = 47
   ·have HI:=Aside0.mk (Go.Lib.indexAny_hit HN.out HX.out (show ([47,63]:List UInt8).contains x = true by rw [show x = 47 from UInt8.toNat_inj.mp h47];rfl))
    rw [h47] at hnx
    clear h47 hx128
    go_wp2_with (go_at_call 58;refine (strings_IndexAny.plain 47 _ (by omega) (by omega)).mono ?_;rintro e w1 ⟨rfl,hw⟩;rw [hw])
    go_ret
    exact ⟨by rw [HI.out];rfl,Go.Lib.below_iterAt HB.out (Nat.le_refl _) s (i + 1)⟩
   by_cases h63:x.toNat = 63
   ·have HI:=Aside0.mk (Go.Lib.indexAny_hit HN.out HX.out (show ([47,63]:List UInt8).contains x = true by rw [show x = 63 from UInt8.toNat_inj.mp h63];rfl))
    rw [h63] at hnx
    clear h63 h47 hx128
    go_wp2_with (go_at_call 58;refine (strings_IndexAny.plain 63 _ (by omega) (by omega)).mono ?_;rintro e w1 ⟨rfl,hw⟩;rw [hw])
    go_ret
    exact ⟨by rw [HI.out];rfl,Go.Lib.below_iterAt HB.out (Nat.le_refl _) s (i + 1)⟩
   ·have HP:=Aside0.mk (HN.out.succ HX.out (show ([47,63]:List UInt8).contains x = false by
     have e1:¬ x = 47:=fun e=>h47 (by rw [e];rfl)
     have e2:¬ x = 63:=fun e=>h63 (by rw [e];rfl)
     simp [e1,e2]))
    have HM:=Aside0.mk (show (if (x.toNat:Int) = 47 then (0:Int) else if (x.toNat:Int) = 63 then 1 else -1) = -1 by rw [if_neg (by omega),if_neg (by omega)])
    clear h47 h63
    go_wp2_with (go_at_call 58;refine (strings_IndexAny.plain x.toNat _ (by omega) (by omega)).mono ?_;rintro e w1 ⟨rfl,hw⟩;rw [hw,HM.out])
    go_roundg (s.size - (i + 1))
    case measure=>omega
    case rel=>exact ⟨i + 1,by omega,Go.Lib.iterAt_heap _ _ _ _ _ HK.out,⟨Go.Lib.below_iterAt HB.out (Nat.le_refl _) s (i + 1)⟩,HP⟩
theorem strings_IndexAny.zero (w:World):(zeroValue 62).run Tryd.prog w = .ok (.agg (Array.replicate 256 (.bool false))) w:=by kernel_rfl
theorem strings_IndexAny.calls (a0 a1:ByteArray) (r:Int) (w:World) (h:strings_IndexAny.f a0 a1 = some r) :
  Calls Tryd.prog 42 #[.string a0,.string a1] w fun e w'=>e = .returned (.int .i64 r) ∧ Below w.heap.size w w':=by
 unfold strings_IndexAny.f at h
 split at h
 rotate_left
 ·cases h
 rename_i hc
 obtain ⟨h1,h2⟩:=hc
 obtain rfl:=Option.some.inj h
 obtain rfl:a1 = strings_IndexAny.two:=ByteArray.ext (Array.toList_inj.mp h1)
 by_cases h8:a0.size ≤ 8
 ·exact strings_IndexAny.short a0 w h8
 ·refine (Tryd.strings_IndexAny_long strings_IndexAny.zero a0 strings_IndexAny.two w (by decide) (by omega) (by omega) (by decide) ?_).mono fun e w' ⟨he,hw⟩=>⟨he,?_⟩
  ·intro j b hb
   have hb':([47,63]:List UInt8)[j]? = some b:=hb
   match j,hb' with
   | 0,hb'=>cases hb';decide
   | 1,hb'=>cases hb';decide
  ·rw [hw];exact below_alloc (below_alloc (Below.refl _ _) _) _

/-! ### strings_Join: function 66 -/
/-- The elements put together. -/
def strings_Join.f (l0:List ByteArray) (a1:ByteArray):Option ByteArray :=
 if l0.length ≤ 140737488355328 ∧ (Go.Lib.join (l0.map (·.data.toList)) a1.data.toList).length ≤ 140737488355328 then some ⟨(Go.Lib.join (l0.map (·.data.toList)) a1.data.toList).toArray⟩ else none
theorem strings_Join.plain {w:World} {ad:Addr} {j:Nat} {v:Value} (h:w.cell? (ad.add j) = some v) (h0:∃ u,w.cell? (ad.add 0) = some u):w.cell? ⟨ad.block,ad.off + j,none⟩ = some v ∧ ad.spot = none:=by
 have hs:ad.spot = none:=by
  obtain ⟨u,hu⟩:=h0
  unfold World.cell? at hu
  split at hu
  ·split at hu
   ·cases hu
   ·rename_i hn
    unfold Addr.add at hn
    simpa using hn
  ·cases hu
 refine ⟨?_,hs⟩
 rw [← h]
 congr 1
 unfold Addr.add
 split
 ·rename_i hj;subst hj;cases ad;simp_all
 ·rfl
theorem strings_Join.calls (A0:Option Addr) (c0:Nat) (l0:List ByteArray) (a1:ByteArray) (r:ByteArray) (w:World) (hr0:Kd.C Kd.string w A0 l0.length l0) (hc0:l0.length ≤ c0) (h:strings_Join.f l0 a1 = some r) :
  Calls Tryd.prog 66 #[.slice A0 l0.length c0,.string a1] w fun e w'=>e = .returned (.string r) ∧ Below w.heap.size w w':=by
 unfold strings_Join.f at h
 split at h
 rotate_left
 ·cases h
 rename_i hb
 obtain rfl:=Option.some.inj h
 cases l0 with
 | nil=>exact (Tryd.strings_Join_none A0 c0 a1 w).mono fun e w' ⟨he,hw⟩=>⟨by rw [he];rfl,hw ▸ Below.refl _ _⟩
 | cons x l =>
  obtain ⟨ad,rfl,hc⟩:=hr0.2.2 (by simp)
  have hcell:∀ (j:Nat) y,(x :: l)[j]? = some y → w.cell? (ad.add j) = some (.string y):=fun j y hy=>by
   obtain ⟨c,_,hK,hcc⟩:=hc j y hy
   have hK':c = [.string y]:=hK
   subst hK'
   have:=hcc 0 _ rfl
   rwa [show j * Kd.string.sz + 0 = j by show j * 1 + 0 = j;omega] at this
  have h0:∃ u,w.cell? (ad.add 0) = some u:=⟨_,hcell 0 x rfl⟩
  have hp:=fun (j:Nat) y (hy:(x :: l)[j]? = some y)=>(strings_Join.plain (hcell j y hy) h0).1
  have hs:=(strings_Join.plain (hcell 0 x rfl) h0).2
  have hbk:ad.block < w.heap.size:=World.block_lt_of_cell? w ⟨ad.block,ad.off + 0,none⟩ (hp 0 x rfl)
  have hl:(x :: l).length ≤ 140737488355328:=hb.1
  have:=Tryd.strings_Join ad.block ad.off c0 (x :: l) a1 w hp hbk hl hc0 hb.2
  rw [show (⟨ad.block,ad.off,none⟩:Addr) = ad by cases ad;simp_all] at this
  exact this

/-! ### impl_writePath: function 47 -/
def impl_writePath.f (a0_0:ByteArray) (l0_1:List ByteArray) (a0_2:Bool) (a0_3:ByteArray):Option (ByteArray):=(strings_Join.f l0_1 (⟨#[47]⟩:ByteArray)).bind fun t109=>(if 1 + t109.size ≤ 9223372036854775807 then (if a0_2 = true then (if 1 + a0_3.size ≤ 9223372036854775807 then (if ((⟨#[47]⟩:ByteArray) ++ t109).size + ((⟨#[63]⟩:ByteArray) ++ a0_3).size ≤ 9223372036854775807 then (some (((⟨#[47]⟩:ByteArray) ++ t109) ++ ((⟨#[63]⟩:ByteArray) ++ a0_3))) else (none)) else (none)) else (some ((⟨#[47]⟩:ByteArray) ++ t109))) else (none))
theorem impl_writePath.calls (a0_0:ByteArray) (A0_1:Option Addr) (c0_1:Nat) (l0_1:List ByteArray) (a0_2:Bool) (a0_3:ByteArray) (r:ByteArray) (w:World) (hr0_1:Kd.C Kd.string w A0_1 l0_1.length l0_1) (hc0_1:l0_1.length ≤ c0_1) (h:impl_writePath.f a0_0 l0_1 a0_2 a0_3 = some r) :
  Calls Tryd.prog 47 #[.agg #[.string a0_0,.slice A0_1 l0_1.length c0_1,.bool a0_2,.string a0_3]] w fun e w'=>e = .returned (.string r) ∧ Below w.heap.size w w':=by
 have hu24:=Tryd.underlying24
 have HR0_1:=Aside0.mk hr0_1
 have HC0_1:=Aside0.mk hc0_1
 clear hr0_1 hc0_1
 have HB:=Aside0.mk (Below.refl w.heap.size w)
 have H:((strings_Join.f l0_1 (⟨#[47]⟩:ByteArray)).bind fun t109=>(if 1 + t109.size ≤ 9223372036854775807 then (if a0_2 = true then (if 1 + a0_3.size ≤ 9223372036854775807 then (if ((⟨#[47]⟩:ByteArray) ++ t109).size + ((⟨#[63]⟩:ByteArray) ++ a0_3).size ≤ 9223372036854775807 then (some (((⟨#[47]⟩:ByteArray) ++ t109) ++ ((⟨#[63]⟩:ByteArray) ++ a0_3))) else (none)) else (none)) else (some ((⟨#[47]⟩:ByteArray) ++ t109))) else (none))) = some r:=h
 clear h
 replace H:=Option.bind_eq_some_iff.mp H
 obtain ⟨t109,A20,H⟩:=H
 replace H:(if 1 + t109.size ≤ 9223372036854775807 then (if a0_2 = true then (if 1 + a0_3.size ≤ 9223372036854775807 then (if ((⟨#[47]⟩:ByteArray) ++ t109).size + ((⟨#[63]⟩:ByteArray) ++ a0_3).size ≤ 9223372036854775807 then (some (((⟨#[47]⟩:ByteArray) ++ t109) ++ ((⟨#[63]⟩:ByteArray) ++ a0_3))) else (none)) else (none)) else (some ((⟨#[47]⟩:ByteArray) ++ t109))) else (none)) = some r:=H
 have A2:=Aside0.mk A20
 clear A20
 by_cases c3:1 + t109.size ≤ 9223372036854775807
 ·rw [if_pos c3] at H
  have c3b0:=eq_true c3
  have c3b1:=decide_eq_true c3
  try have c3b2:(9223372036854775807 < 1 + t109.size) = False:=eq_false (Nat.not_lt.2 c3)
  by_cases c4:a0_2 = true
  ·subst c4
   have H1:(if 1 + a0_3.size ≤ 9223372036854775807 then (if ((⟨#[47]⟩:ByteArray) ++ t109).size + ((⟨#[63]⟩:ByteArray) ++ a0_3).size ≤ 9223372036854775807 then (some (((⟨#[47]⟩:ByteArray) ++ t109) ++ ((⟨#[63]⟩:ByteArray) ++ a0_3))) else (none)) else (none)) = some r:=by rw [if_pos rfl] at H;exact H
   clear H
   have H:=H1
   clear H1
   by_cases c5:1 + a0_3.size ≤ 9223372036854775807
   ·rw [if_pos c5] at H
    have c5b0:=eq_true c5
    have c5b1:=decide_eq_true c5
    try have c5b2:(9223372036854775807 < 1 + a0_3.size) = False:=eq_false (Nat.not_lt.2 c5)
    by_cases c6:((⟨#[47]⟩:ByteArray) ++ t109).size + ((⟨#[63]⟩:ByteArray) ++ a0_3).size ≤ 9223372036854775807
    ·rw [if_pos c6] at H
     have c6b0:=eq_true c6
     have c6b1:=decide_eq_true c6
     try have c6b3:(9223372036854775807 < 1 + t109.size + 1 + a0_3.size) = False:=eq_false (Nat.not_lt.2 (by have h_:=c6;simp only [ByteArray.size_append] at h_;exact h_))
     try have c6b2:(9223372036854775807 < ((⟨#[47]⟩:ByteArray) ++ t109).size + ((⟨#[63]⟩:ByteArray) ++ a0_3).size) = False:=eq_false (Nat.not_lt.2 c6)
     obtain rfl:=Option.some.inj H
     go_enter Tryd.func47,Tryd.ntmps47
     go_wp2_with (first|((with_reducible refine gate_dst (N:=1) rfl ?_);refine box_event ?hg (N:=1) ?hd (cs:=#[.string a0_0,.slice A0_1 l0_1.length c0_1,.bool true,.string a0_3]) (t:=24) ?hr ?_;(case hd=>rfl);(case hg=>rfl);(case hr=>first|(go_simp;done)|(go_simp;rfl));intro gb108 hg w7 hbox hb;have n0_:=Aside0.mk (below_step (by repeat (first|(with_reducible first|exact HB.out|apply below_alloc|apply pw_below_drewN|apply below_drew1)|exact HB.out)) hb);have n1_:=Aside0.mk (hbox);have n2_:=Aside0.mk ((by rw [hg];exact (below_size (by repeat (first|(with_reducible first|exact HB.out|apply below_alloc|apply pw_below_drewN|apply below_drew1)|exact HB.out))):w.heap.size ≤ gb108));have n3_:=n2_;clear HB;have HB:=n0_;have BK108:=n1_;have GW108:=n2_;have GE108:=n3_;clear n0_ n1_ n2_ n3_;clear hb hbox hg;have hcz8_0:w7.cell? ⟨gb108,0,none⟩ = some (.string a0_0):=(blk_cell BK108.out 0).trans rfl;have hcz8_1:w7.cell? ⟨gb108,1,none⟩ = some (.slice A0_1 l0_1.length c0_1):=(blk_cell BK108.out 1).trans rfl;have hcz8_2:w7.cell? ⟨gb108,2,none⟩ = some (.bool true):=(blk_cell BK108.out 2).trans rfl;have hcz8_3:w7.cell? ⟨gb108,3,none⟩ = some (.string a0_3):=(blk_cell BK108.out 3).trans rfl;have hfz8_0:=blk_frozen BK108.out 0;have hfz8_1:=blk_frozen BK108.out 1;have hfz8_2:=blk_frozen BK108.out 2;have hfz8_3:=blk_frozen BK108.out 3)|((with_reducible refine gate_callee (f:=66) rfl ?_);refine goesL_ (some 6) rfl rfl Tryd.func66 (by kernel_rfl) rfl #[.slice A0_1 l0_1.length c0_1,.string (⟨#[47]⟩:ByteArray)] rfl (by (try simp only [List.map_toArray,List.map_cons,List.map_nil]);first|done|rfl|(simp only [List.length_drop,List.length_take];rfl)) ?_;(with_reducible refine (strings_Join.calls _ _ l0_1 (⟨#[47]⟩:ByteArray) t109 _ ?side1 ?side2 A2.out).mono ?_);(case side1=>repeat (first|exact (Kd.C_below HR0_1.out HB.out)|(with_reducible refine Kd.C_alloc ?_ _)|(with_reducible refine Kd.C_drewN ?_ _)|(with_reducible refine Kd.C_drew ?_)));(case side2=>exact HC0_1.out);rintro e w9 ⟨rfl,hb⟩;refine ⟨_,rfl,?_⟩;have n0_:=Aside0.mk (blk_below (g:=gb108) (o:=.cells #[.string a0_0,.slice A0_1 l0_1.length c0_1,.bool true,.string a0_3] 24 (0,0)) (by (with_reducible repeat (first|refine blk_drewN ?_ _|refine blk_drew ?_|refine blk_alloc ?_ _));exact BK108.out) hb);have n1_:=Aside0.mk (below_step (by repeat (first|(with_reducible first|exact HB.out|apply below_alloc|apply pw_below_drewN|apply below_drew1|refine below_set ?_ GE108.out)|exact HB.out)) hb);clear BK108;clear HB;have BK108:=n0_;have HB:=n1_;clear n0_ n1_;(try clear hb);(try clear hb2);(try clear hk);(try clear hi);have hcz10_0:w9.cell? ⟨gb108,0,none⟩ = some (.string a0_0):=(blk_cell BK108.out 0).trans rfl;have hcz10_1:w9.cell? ⟨gb108,1,none⟩ = some (.slice A0_1 l0_1.length c0_1):=(blk_cell BK108.out 1).trans rfl;have hcz10_2:w9.cell? ⟨gb108,2,none⟩ = some (.bool true):=(blk_cell BK108.out 2).trans rfl;have hcz10_3:w9.cell? ⟨gb108,3,none⟩ = some (.string a0_3):=(blk_cell BK108.out 3).trans rfl;have hfz10_0:=blk_frozen BK108.out 0;have hfz10_1:=blk_frozen BK108.out 1;have hfz10_2:=blk_frozen BK108.out 2;have hfz10_3:=blk_frozen BK108.out 3))
     go_ret
     exact ⟨by first|rfl|(simp <;> rfl)|(simp [*] <;> rfl),by repeat (first|(with_reducible first|exact HB.out|apply below_alloc|apply pw_below_drewN|apply below_drew1|refine below_set ?_ GE108.out)|exact HB.out)⟩
    ·rw [if_neg c6] at H
     exact absurd H (by simp)
   ·rw [if_neg c5] at H
    exact absurd H (by simp)
  ·replace c4:=Bool.eq_false_iff.mpr c4
   subst c4
   have H1:(some ((⟨#[47]⟩:ByteArray) ++ t109)) = some r:=by rw [if_neg (show ¬ (false = true) by decide)] at H;exact H
   clear H
   have H:=H1
   clear H1
   obtain rfl:=Option.some.inj H
   go_enter Tryd.func47,Tryd.ntmps47
   go_wp2_with (first|((with_reducible refine gate_dst (N:=1) rfl ?_);refine box_event ?hg (N:=1) ?hd (cs:=#[.string a0_0,.slice A0_1 l0_1.length c0_1,.bool false,.string a0_3]) (t:=24) ?hr ?_;(case hd=>rfl);(case hg=>rfl);(case hr=>first|(go_simp;done)|(go_simp;rfl));intro gb108 hg w11 hbox hb;have n0_:=Aside0.mk (below_step (by repeat (first|(with_reducible first|exact HB.out|apply below_alloc|apply pw_below_drewN|apply below_drew1)|exact HB.out)) hb);have n1_:=Aside0.mk (hbox);have n2_:=Aside0.mk ((by rw [hg];exact (below_size (by repeat (first|(with_reducible first|exact HB.out|apply below_alloc|apply pw_below_drewN|apply below_drew1)|exact HB.out))):w.heap.size ≤ gb108));have n3_:=n2_;clear HB;have HB:=n0_;have BK108:=n1_;have GW108:=n2_;have GE108:=n3_;clear n0_ n1_ n2_ n3_;clear hb hbox hg;have hcz12_0:w11.cell? ⟨gb108,0,none⟩ = some (.string a0_0):=(blk_cell BK108.out 0).trans rfl;have hcz12_1:w11.cell? ⟨gb108,1,none⟩ = some (.slice A0_1 l0_1.length c0_1):=(blk_cell BK108.out 1).trans rfl;have hcz12_2:w11.cell? ⟨gb108,2,none⟩ = some (.bool false):=(blk_cell BK108.out 2).trans rfl;have hcz12_3:w11.cell? ⟨gb108,3,none⟩ = some (.string a0_3):=(blk_cell BK108.out 3).trans rfl;have hfz12_0:=blk_frozen BK108.out 0;have hfz12_1:=blk_frozen BK108.out 1;have hfz12_2:=blk_frozen BK108.out 2;have hfz12_3:=blk_frozen BK108.out 3)|((with_reducible refine gate_callee (f:=66) rfl ?_);refine goesL_ (some 6) rfl rfl Tryd.func66 (by kernel_rfl) rfl #[.slice A0_1 l0_1.length c0_1,.string (⟨#[47]⟩:ByteArray)] rfl (by (try simp only [List.map_toArray,List.map_cons,List.map_nil]);first|done|rfl|(simp only [List.length_drop,List.length_take];rfl)) ?_;(with_reducible refine (strings_Join.calls _ _ l0_1 (⟨#[47]⟩:ByteArray) t109 _ ?side1 ?side2 A2.out).mono ?_);(case side1=>repeat (first|exact (Kd.C_below HR0_1.out HB.out)|(with_reducible refine Kd.C_alloc ?_ _)|(with_reducible refine Kd.C_drewN ?_ _)|(with_reducible refine Kd.C_drew ?_)));(case side2=>exact HC0_1.out);rintro e w13 ⟨rfl,hb⟩;refine ⟨_,rfl,?_⟩;have n0_:=Aside0.mk (blk_below (g:=gb108) (o:=.cells #[.string a0_0,.slice A0_1 l0_1.length c0_1,.bool false,.string a0_3] 24 (0,0)) (by (with_reducible repeat (first|refine blk_drewN ?_ _|refine blk_drew ?_|refine blk_alloc ?_ _));exact BK108.out) hb);have n1_:=Aside0.mk (below_step (by repeat (first|(with_reducible first|exact HB.out|apply below_alloc|apply pw_below_drewN|apply below_drew1|refine below_set ?_ GE108.out)|exact HB.out)) hb);clear BK108;clear HB;have BK108:=n0_;have HB:=n1_;clear n0_ n1_;(try clear hb);(try clear hb2);(try clear hk);(try clear hi);have hcz14_0:w13.cell? ⟨gb108,0,none⟩ = some (.string a0_0):=(blk_cell BK108.out 0).trans rfl;have hcz14_1:w13.cell? ⟨gb108,1,none⟩ = some (.slice A0_1 l0_1.length c0_1):=(blk_cell BK108.out 1).trans rfl;have hcz14_2:w13.cell? ⟨gb108,2,none⟩ = some (.bool false):=(blk_cell BK108.out 2).trans rfl;have hcz14_3:w13.cell? ⟨gb108,3,none⟩ = some (.string a0_3):=(blk_cell BK108.out 3).trans rfl;have hfz14_0:=blk_frozen BK108.out 0;have hfz14_1:=blk_frozen BK108.out 1;have hfz14_2:=blk_frozen BK108.out 2;have hfz14_3:=blk_frozen BK108.out 3))
   go_ret
   exact ⟨by first|rfl|(simp <;> rfl)|(simp [*] <;> rfl),by repeat (first|(with_reducible first|exact HB.out|apply below_alloc|apply pw_below_drewN|apply below_drew1|refine below_set ?_ GE108.out)|exact HB.out)⟩
 ·rw [if_neg c3] at H
  exact absurd H (by simp)

/-! ### impl_writeAddr: function 28 -/
def impl_writeAddr.f (a0_0:ByteArray) (l0_1:List ByteArray) (a0_2:Bool) (a0_3:ByteArray):Option (ByteArray):=if 2 + a0_0.size ≤ 9223372036854775807 then ((impl_writePath.f a0_0 l0_1 a0_2 a0_3).bind fun t111=>(if ((⟨#[47,47]⟩:ByteArray) ++ a0_0).size + t111.size ≤ 9223372036854775807 then (some (((⟨#[47,47]⟩:ByteArray) ++ a0_0) ++ t111)) else (none))) else (none)
theorem impl_writeAddr.calls (a0_0:ByteArray) (A0_1:Option Addr) (c0_1:Nat) (l0_1:List ByteArray) (a0_2:Bool) (a0_3:ByteArray) (r:ByteArray) (w:World) (hr0_1:Kd.C Kd.string w A0_1 l0_1.length l0_1) (hc0_1:l0_1.length ≤ c0_1) (h:impl_writeAddr.f a0_0 l0_1 a0_2 a0_3 = some r) :
  Calls Tryd.prog 28 #[.agg #[.string a0_0,.slice A0_1 l0_1.length c0_1,.bool a0_2,.string a0_3]] w fun e w'=>e = .returned (.string r) ∧ Below w.heap.size w w':=by
 have hu24:=Tryd.underlying24
 have HR0_1:=Aside0.mk hr0_1
 have HC0_1:=Aside0.mk hc0_1
 clear hr0_1 hc0_1
 have HB:=Aside0.mk (Below.refl w.heap.size w)
 have H:(if 2 + a0_0.size ≤ 9223372036854775807 then ((impl_writePath.f a0_0 l0_1 a0_2 a0_3).bind fun t111=>(if ((⟨#[47,47]⟩:ByteArray) ++ a0_0).size + t111.size ≤ 9223372036854775807 then (some (((⟨#[47,47]⟩:ByteArray) ++ a0_0) ++ t111)) else (none))) else (none)) = some r:=h
 clear h
 by_cases c2:2 + a0_0.size ≤ 9223372036854775807
 ·rw [if_pos c2] at H
  have c2b0:=eq_true c2
  have c2b1:=decide_eq_true c2
  try have c2b2:(9223372036854775807 < 2 + a0_0.size) = False:=eq_false (Nat.not_lt.2 c2)
  replace H:=Option.bind_eq_some_iff.mp H
  obtain ⟨t111,A30,H⟩:=H
  replace H:(if ((⟨#[47,47]⟩:ByteArray) ++ a0_0).size + t111.size ≤ 9223372036854775807 then (some (((⟨#[47,47]⟩:ByteArray) ++ a0_0) ++ t111)) else (none)) = some r:=H
  have A3:=Aside0.mk A30
  clear A30
  by_cases c4:((⟨#[47,47]⟩:ByteArray) ++ a0_0).size + t111.size ≤ 9223372036854775807
  ·rw [if_pos c4] at H
   have c4b0:=eq_true c4
   have c4b1:=decide_eq_true c4
   try have c4b3:(9223372036854775807 < 2 + a0_0.size + t111.size) = False:=eq_false (Nat.not_lt.2 (by have h_:=c4;simp only [ByteArray.size_append] at h_;exact h_))
   try have c4b2:(9223372036854775807 < ((⟨#[47,47]⟩:ByteArray) ++ a0_0).size + t111.size) = False:=eq_false (Nat.not_lt.2 c4)
   obtain rfl:=Option.some.inj H
   go_enter Tryd.func28,Tryd.ntmps28
   try go_wp2_with (first|((with_reducible refine gate_dst (N:=1) rfl ?_);refine box_event ?hg (N:=1) ?hd (cs:=#[.string a0_0,.slice A0_1 l0_1.length c0_1,.bool a0_2,.string a0_3]) (t:=24) ?hr ?_;(case hd=>rfl);(case hg=>rfl);(case hr=>first|(go_simp;done)|(go_simp;rfl));intro gb110 hg w5 hbox hb;have n0_:=Aside0.mk (below_step (by repeat (first|(with_reducible first|exact HB.out|apply below_alloc|apply pw_below_drewN|apply below_drew1)|exact HB.out)) hb);have n1_:=Aside0.mk (hbox);have n2_:=Aside0.mk ((by rw [hg];exact (below_size (by repeat (first|(with_reducible first|exact HB.out|apply below_alloc|apply pw_below_drewN|apply below_drew1)|exact HB.out))):w.heap.size ≤ gb110));have n3_:=n2_;clear HB;have HB:=n0_;have BK110:=n1_;have GW110:=n2_;have GE110:=n3_;clear n0_ n1_ n2_ n3_;clear hb hbox hg))
   have n0_:=Aside0.mk (blk_drew BK110.out)
   have n1_:=Aside0.mk (below_drew1 HB.out)
   clear BK110
   clear HB
   have BK110:=n0_
   have HB:=n1_
   clear n0_ n1_
   refine start_ (n:=7) (S:=fun w'=>w'.cell? ⟨gb110,0,none⟩ = some (.string a0_0) ∧ w'.cell? ⟨gb110,1,none⟩ = some (.slice A0_1 l0_1.length c0_1) ∧ w'.cell? ⟨gb110,2,none⟩ = some (.bool a0_2) ∧ w'.cell? ⟨gb110,3,none⟩ = some (.string a0_3)) (ds:=[]) #[false,false,false,false,false,false,false] (by kernel_rfl) rfl rfl ⟨(blk_cell BK110.out 0).trans rfl,(blk_cell BK110.out 1).trans rfl,(blk_cell BK110.out 2).trans rfl,(blk_cell BK110.out 3).trans rfl⟩ (fun hHeld=>?_)
   generalize w5.drew = w6 at BK110 HB hHeld ⊢
   refine pure_ (i:=0) (N:=some 3) (v:=?_) (a':=?_) #[true,false,false,false,false,false,false] rfl rfl (by kernel_rfl) (fun _ _ _ h=>h) (Or.inl ⟨by rfl,?_⟩) ?_ ?_
   rotate_left
   ·intro w'
    go_simp
    with_reducible rfl
   rotate_left
   ·simp only [Act.put,List.setIfInBounds_toArray,List.set_cons_zero,List.set_cons_succ,i64_w,i32_w]
    rfl
   refine take_ (i:=1) (N:=some 4) (v:=?_) (a':=?_) #[true,true,false,false,false,false,false] rfl rfl (by kernel_rfl) (fun _ _ _ h=>h) (Or.inl ⟨by rfl,?_⟩) hHeld ?_ ?_
   rotate_left
   ·rintro w' ⟨s0,s1,s2,s3⟩
    go_simp
    with_reducible rfl
   rotate_left
   ·simp only [Act.put,List.setIfInBounds_toArray,List.set_cons_zero,List.set_cons_succ,i64_w,i32_w]
    rfl
   refine pure_ (i:=2) (N:=some 5) (v:=?_) (a':=?_) #[true,true,true,false,false,false,false] rfl rfl (by kernel_rfl) (fun _ _ _ h=>h) (Or.inl ⟨by rfl,?_⟩) ?_ ?_
   rotate_left
   ·intro w'
    go_simp
    with_reducible rfl
   rotate_left
   ·simp only [Act.put,List.setIfInBounds_toArray,List.set_cons_zero,List.set_cons_succ,i64_w,i32_w]
    rfl
   refine take_ (i:=3) (N:=some 6) (v:=?_) (a':=?_) #[true,true,true,true,false,false,false] rfl rfl (by kernel_rfl) (fun _ _ _ h=>h) (Or.inl ⟨by rfl,?_⟩) hHeld ?_ ?_
   rotate_left
   ·rintro w' ⟨s0,s1,s2,s3⟩
    go_simp
    with_reducible rfl
   rotate_left
   ·simp only [Act.put,List.setIfInBounds_toArray,List.set_cons_zero,List.set_cons_succ,i64_w,i32_w]
    rfl
   refine one_ (i:=4) (N:=some 7) #[true,true,true,true,true,false,false] rfl rfl (by kernel_rfl) (by decide) (fun K hK=>?_)
   refine goes_ Tryd.func47 (by kernel_rfl) rfl #[.agg #[.string a0_0,.slice A0_1 l0_1.length c0_1,.bool a0_2,.string a0_3]] (by rfl) rfl rfl (by (try simp only [List.map_toArray,List.map_cons,List.map_nil]);first|done|rfl|(simp only [List.length_drop,List.length_take];rfl)) ?_
   with_reducible refine (impl_writePath.calls a0_0 _ _ l0_1 a0_2 a0_3 t111 _ ?side1 ?side2 A3.out).mono ?_
   (case side1=>repeat (first|exact (Kd.C_below HR0_1.out HB.out)|(with_reducible refine Kd.C_alloc ?_ _)|(with_reducible refine Kd.C_drewN ?_ _)|(with_reducible refine Kd.C_drew ?_)))
   (case side2=>exact HC0_1.out)
   rintro e w7 ⟨rfl,hb⟩
   refine ⟨_,rfl,?_⟩
   have n0_:=Aside0.mk (blk_below (g:=gb110) (o:=.cells #[.string a0_0,.slice A0_1 l0_1.length c0_1,.bool a0_2,.string a0_3] 24 (0,0)) (by (with_reducible repeat (first|refine blk_drewN ?_ _|refine blk_drew ?_|refine blk_alloc ?_ _));exact BK110.out) hb)
   have n1_:=Aside0.mk (below_step (by repeat (first|(with_reducible first|exact HB.out|apply below_alloc|apply pw_below_drewN|apply below_drew1|refine below_set ?_ GE110.out)|exact HB.out)) hb)
   clear BK110
   clear HB
   have BK110:=n0_
   have HB:=n1_
   clear n0_ n1_
   (try clear hb)
   (try clear hb2)
   (try clear hk)
   (try clear hi)
   refine hK.out _ _ ⟨(blk_cell BK110.out 0).trans rfl,(blk_cell BK110.out 1).trans rfl,(blk_cell BK110.out 2).trans rfl,(blk_cell BK110.out 3).trans rfl⟩ (fun hHeld=>?_)
   clear hK K
   refine norm_ (a':=?_) ?_ ?_
   rotate_left
   ·show Act.put _ (some 7) _ = _
    simp only [Act.put,List.setIfInBounds_toArray,List.set_cons_zero,List.set_cons_succ,i64_w,i32_w]
    rfl
   refine pure_ (i:=5) (N:=some 8) (v:=?_) (a':=?_) #[true,true,true,true,true,true,false] rfl rfl (by kernel_rfl) (fun _ _ _ h=>h) (Or.inl ⟨by rfl,?_⟩) ?_ ?_
   rotate_left
   ·intro w'
    go_simp
    with_reducible rfl
   rotate_left
   ·simp only [Act.put,List.setIfInBounds_toArray,List.set_cons_zero,List.set_cons_succ,i64_w,i32_w]
    rfl
   refine pure_ (i:=6) (N:=some 2) (v:=?_) (a':=?_) #[true,true,true,true,true,true,true] rfl rfl (by kernel_rfl) (fun _ _ _ h=>h) (Or.inl ⟨by rfl,?_⟩) ?_ ?_
   rotate_left
   ·intro w'
    go_simp
    with_reducible rfl
   rotate_left
   ·simp only [Act.put,List.setIfInBounds_toArray,List.set_cons_zero,List.set_cons_succ,i64_w,i32_w]
    rfl
   refine done_ (by kernel_rfl) ?_
   try go_wp2
   go_ret
   exact ⟨by first|rfl|(simp <;> rfl)|(simp [*] <;> rfl),by repeat (first|(with_reducible first|exact HB.out|apply below_alloc|apply pw_below_drewN|apply below_drew1|refine below_set ?_ GE110.out)|exact HB.out)⟩
  ·rw [if_neg c4] at H
   exact absurd H (by simp)
 ·rw [if_neg c2] at H
  exact absurd H (by simp)

/-! ### impl_allSmallLetters: function 51 -/
def impl_allSmallLetters.l0:Nat → ByteArray → Int → Option (Bool)
 | 0,_,_=>none
 | k + 1,x0,x3=>if x3 < (x0.size:Int) then (if 0 ≤ x3 then (if (bt x0 x3) < 97 then (some false) else (if (bt x0 x3) > 122 then (some false) else (impl_allSmallLetters.l0 k x0 (wrap64 (x3 + 1))))) else (none)) else (some true)
def impl_allSmallLetters.f (k:Nat) (a0:ByteArray):Option (Bool):=impl_allSmallLetters.l0 k a0 0
theorem impl_allSmallLetters.mono_l:∀ k,(∀ y0 y1,LeO (impl_allSmallLetters.l0 k y0 y1) (impl_allSmallLetters.l0 (k + 1) y0 y1))
 | 0=>fun _ _ r h=>by simp [impl_allSmallLetters.l0] at h
 | k + 1=>by
  have ih0:=impl_allSmallLetters.mono_l k
  ·intro y0 y1
   unfold impl_allSmallLetters.l0
   repeat' first
   | (with_reducible exact ih0 _ _)
   | (with_reducible exact LeO.refl _)
   | (with_reducible exact LeO.none _)
   | (with_reducible refine LeO.ite ?_ ?_)
   | (with_reducible refine LeO.bind ?_ (fun _=>?_))
   | exact ih0 _ _
   | exact LeO.none _
   | refine LeO.ite ?_ ?_
   | refine LeO.bind ?_ (fun _=>?_)
theorem impl_allSmallLetters.mono:∀ a0 k,LeO (impl_allSmallLetters.f k a0) (impl_allSmallLetters.f (k + 1) a0):=by
 intro a0 k
 have ih0:=impl_allSmallLetters.mono_l k
 unfold impl_allSmallLetters.f
 repeat' first
   | (with_reducible exact ih0 _ _)
   | (with_reducible exact LeO.refl _)
   | (with_reducible exact LeO.none _)
   | (with_reducible refine LeO.ite ?_ ?_)
   | (with_reducible refine LeO.bind ?_ (fun _=>?_))
   | exact ih0 _ _
   | exact LeO.none _
   | refine LeO.ite ?_ ?_
   | refine LeO.bind ?_ (fun _=>?_)
theorem impl_allSmallLetters.calls (k:Nat) (a0:ByteArray) (r:Bool) (w:World) (h:impl_allSmallLetters.f k a0 = some r) :
  Calls Tryd.prog 51 #[.string a0] w fun e w'=>e = .returned (.bool r) ∧ Drawn0 w w':=by
 have H:(impl_allSmallLetters.l0 k a0 0) = some r:=h
 clear h
 have H':=Aside0.mk H
 clear H
 go_enter Tryd.func51,Tryd.ntmps51
 go_wp2
 go_loopg [3] k (fun kq v3 w'=>∃ (x3_1:Int),v3 = .int .i64 x3_1 ∧ Aside0 (impl_allSmallLetters.l0 kq a0 x3_1 = some r) ∧ Aside0 (kq ≤ k) ∧ Drawn0 w w')
 case atStart=>exact ⟨(0),(by first|rfl|(simp;done)|(simp only [i64_w,i32_w];done)|(simp only [i64_w,i32_w];rfl)|(simp [*];done)|(simp [emp_bne,emp_beq];done)),H',⟨Nat.le_refl _⟩,by repeat (first|exact Drawn0.refl _|apply Drawn0.step)⟩
 case round =>
  clear H'
  obtain ⟨x3_1,rfl,HA,HK1,⟨m1,rfl⟩⟩:=hrel
  cases gk with
  | zero=>exact absurd HA.out (by simp [impl_allSmallLetters.l0])
  | succ k1 =>
   have H:=HA.out
   clear HA
   simp only [impl_allSmallLetters.l0] at H
   by_cases c2:x3_1 < (a0.size:Int)
   ·rw [if_pos c2] at H
    have c2b0:decide (x3_1 < (a0.size:Int)) = true:=decide_eq_true c2
    clear c2
    by_cases c3:0 ≤ x3_1
    ·rw [if_pos c3] at H
     have c3b0:decide (0 ≤ x3_1) = true:=decide_eq_true c3
     clear c3
     by_cases c5:(bt a0 x3_1) < 97
     ·rw [if_pos c5] at H
      have c5b0:decide ((bt a0 x3_1) < 97) = true:=decide_eq_true c5
      clear c5
      obtain rfl:=Option.some.inj H
      have p4:0 ≤ (x3_1:Int):=of_decide_eq_true (by first|(with_reducible assumption)|assumption)
      have q4:x3_1 < (a0.size:Int):=of_decide_eq_true (by first|(with_reducible assumption)|assumption)
      have hx4:=bt_at a0 x3_1
      replace p4:=eq_true p4
      replace q4:=eq_true q4
      go_wp2
      go_ret
      exact ⟨by first|rfl|(simp;done)|(simp only [i64_w,i32_w];done)|(simp only [i64_w,i32_w];rfl)|(simp [*];done)|(simp [emp_bne,emp_beq];done),by repeat (first|exact Drawn0.refl _|apply Drawn0.step)⟩
     ·rw [if_neg c5] at H
      have c5b0:decide ((bt a0 x3_1) < 97) = false:=decide_eq_false c5
      clear c5
      by_cases c7:(bt a0 x3_1) > 122
      ·rw [if_pos c7] at H
       have c7b0:decide (122 < (bt a0 x3_1)) = true:=decide_eq_true c7
       clear c7
       obtain rfl:=Option.some.inj H
       have p4:0 ≤ (x3_1:Int):=of_decide_eq_true (by first|(with_reducible assumption)|assumption)
       have q4:x3_1 < (a0.size:Int):=of_decide_eq_true (by first|(with_reducible assumption)|assumption)
       have hx4:=bt_at a0 x3_1
       replace p4:=eq_true p4
       replace q4:=eq_true q4
       have p6:0 ≤ (x3_1:Int):=of_decide_eq_true (by first|(with_reducible assumption)|assumption)
       have q6:x3_1 < (a0.size:Int):=of_decide_eq_true (by first|(with_reducible assumption)|assumption)
       have hx6:=bt_at a0 x3_1
       replace p6:=eq_true p6
       replace q6:=eq_true q6
       go_wp2
       go_ret
       exact ⟨by first|rfl|(simp;done)|(simp only [i64_w,i32_w];done)|(simp only [i64_w,i32_w];rfl)|(simp [*];done)|(simp [emp_bne,emp_beq];done),by repeat (first|exact Drawn0.refl _|apply Drawn0.step)⟩
      ·rw [if_neg c7] at H
       have c7b0:decide (122 < (bt a0 x3_1)) = false:=decide_eq_false c7
       clear c7
       have H':=Aside0.mk H
       clear H
       have p4:0 ≤ (x3_1:Int):=of_decide_eq_true (by first|(with_reducible assumption)|assumption)
       have q4:x3_1 < (a0.size:Int):=of_decide_eq_true (by first|(with_reducible assumption)|assumption)
       have hx4:=bt_at a0 x3_1
       replace p4:=eq_true p4
       replace q4:=eq_true q4
       have p6:0 ≤ (x3_1:Int):=of_decide_eq_true (by first|(with_reducible assumption)|assumption)
       have q6:x3_1 < (a0.size:Int):=of_decide_eq_true (by first|(with_reducible assumption)|assumption)
       have hx6:=bt_at a0 x3_1
       replace p6:=eq_true p6
       replace q6:=eq_true q6
       go_wp2
       go_roundg k1
       case measure=>have:=HK1.out;omega
       case rel=>exact ⟨(wrap64 (x3_1 + 1)),(by first|rfl|(simp;done)|(simp only [i64_w,i32_w];done)|(simp only [i64_w,i32_w];rfl)|(simp [*];done)|(simp [emp_bne,emp_beq];done)),H',⟨by have:=HK1.out;omega⟩,by repeat (first|exact Drawn0.refl _|apply Drawn0.step)⟩
    ·rw [if_neg c3] at H
     exact absurd H (by simp)
   ·rw [if_neg c2] at H
    have c2b0:decide (x3_1 < (a0.size:Int)) = false:=decide_eq_false c2
    clear c2
    obtain rfl:=Option.some.inj H
    go_wp2
    go_ret
    exact ⟨by first|rfl|(simp;done)|(simp only [i64_w,i32_w];done)|(simp only [i64_w,i32_w];rfl)|(simp [*];done)|(simp [emp_bne,emp_beq];done),by repeat (first|exact Drawn0.refl _|apply Drawn0.step)⟩

end Go.Proofs.YtochmlkladpfgaaDoor.P
