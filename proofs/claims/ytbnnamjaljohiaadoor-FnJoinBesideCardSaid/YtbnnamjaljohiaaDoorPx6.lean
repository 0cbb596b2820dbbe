-- Written by a program of this session (patch_print.py over the kit's print; given texts in wip/given).
-- Cut down by a program of this session (wip/tools/prune.py) to what its claim can name.
import Derived.Test.YtbnnamjaljohiaaDoorSq
import Derived.Test.YtbnnamjaljohiaaDoorPx0
import Derived.Test.YtbnnamjaljohiaaDoorPx5
namespace Go.Proofs.YtbnnamjaljohiaaDoor.P
open Go.RowKit Go.Proofs.YtbnnamjaljohiaaDoorW.PrintWords Go.Proofs.YtbnnamjaljohiaaDoorW.PrintLast Go.Proofs.YtbnnamjaljohiaaDoorW.PrintMore
attribute [local go_sem] max2_int min2_int max_two min_two max_three min_three max_four min_four   -- for this text's walks alone
set_option linter.unusedVariables false
set_option linter.unusedSimpArgs false
set_option maxHeartbeats 8000000
set_option maxRecDepth 100000

/-! ### stringslite_Cut: function 62 -/
def stringslite_Cut.f (a0:ByteArray) (a1:ByteArray):Option (ByteArray × ByteArray × Bool):=(stringslite_Index.f a0 a1).bind fun t422=>(if t422 ≥ 0 then (if 0 ≤ t422 then (if t422 ≤ (a0.size:Int) then (if 0 ≤ (wrap64 (t422 + (a1.size:Int))) then (if (wrap64 (t422 + (a1.size:Int))) ≤ (a0.size:Int) then (some (a0.extract 0 (t422:Int).toNat,a0.extract ((wrap64 (t422 + (a1.size:Int))):Int).toNat a0.size,true)) else (none)) else (none)) else (none)) else (none)) else (some (a0,(⟨#[]⟩:ByteArray),false)))
theorem stringslite_Cut.calls (a0:ByteArray) (a1:ByteArray) (r1:ByteArray) (r2:ByteArray) (r3:Bool) (w:World) (h:stringslite_Cut.f a0 a1 = some (r1,r2,r3)) :
  Calls Tryd.prog 62 #[.string a0, .string a1] w fun e w'=>e = .returned (.tuple #[.string r1, .string r2, .bool r3]) ∧ Drawn0 w w':=by
 have H:((stringslite_Index.f a0 a1).bind fun t422=>(if t422 ≥ 0 then (if 0 ≤ t422 then (if t422 ≤ (a0.size:Int) then (if 0 ≤ (wrap64 (t422 + (a1.size:Int))) then (if (wrap64 (t422 + (a1.size:Int))) ≤ (a0.size:Int) then (some (a0.extract 0 (t422:Int).toNat,a0.extract ((wrap64 (t422 + (a1.size:Int))):Int).toNat a0.size,true)) else (none)) else (none)) else (none)) else (none)) else (some (a0,(⟨#[]⟩:ByteArray),false)))) = some (r1,r2,r3):=h
 clear h
 replace H:=bI H
 obtain ⟨t422,A30,H⟩:=H
 replace H:(if t422 ≥ 0 then (if 0 ≤ t422 then (if t422 ≤ (a0.size:Int) then (if 0 ≤ (wrap64 (t422 + (a1.size:Int))) then (if (wrap64 (t422 + (a1.size:Int))) ≤ (a0.size:Int) then (some (a0.extract 0 (t422:Int).toNat,a0.extract ((wrap64 (t422 + (a1.size:Int))):Int).toNat a0.size,true)) else (none)) else (none)) else (none)) else (none)) else (some (a0,(⟨#[]⟩:ByteArray),false))) = some (r1,r2,r3):=H
 have A3:=Am A30
 clear A30
 by_cases c4:t422 ≥ 0
 ·rw [if_pos c4] at H
  have c4b0:decide (0 ≤ t422) = true:=decide_eq_true c4
  clear c4
  by_cases c5:0 ≤ t422
  ·rw [if_pos c5] at H
   have c5b0:=eq_true c5
   have c5b1:=decide_eq_true c5
   clear c5
   by_cases c6:t422 ≤ (a0.size:Int)
   ·rw [if_pos c6] at H
    have c6b0:=eq_true c6
    have c6b1:=decide_eq_true c6
    clear c6
    obtain ⟨ji7,hji7⟩:∃ j_:Int,(wrap64 (t422 + (a1.size:Int))) = j_:=⟨_,rfl⟩
    replace H:(if 0 ≤ (ji7) then (if (ji7) ≤ (a0.size:Int) then (some (a0.extract 0 (t422:Int).toNat,a0.extract ((ji7):Int).toNat a0.size,true)) else (none)) else (none)) = some (r1,r2,r3):=by first|(rw [hji7] at H;exact H)|(simp only [hji7] at H ⊢;exact H)
    (try rw [hji7] at A3)
    have hji7w:(IntKind.i64.wrap (t422 + (a1.size:Int))) = ji7:=(i64_w _).trans hji7
    by_cases c8:0 ≤ (ji7)
    ·rw [if_pos c8] at H
     have c8b0:=eq_true c8
     have c8b1:=decide_eq_true c8
     clear c8
     by_cases c9:(ji7) ≤ (a0.size:Int)
     ·rw [if_pos c9] at H
      have c9b0:=eq_true c9
      have c9b1:=decide_eq_true c9
      clear c9
      simp only [Option.some.injEq,Prod.mk.injEq] at H
      obtain ⟨rfl,rfl,rfl⟩:=H
      go_enter Tryd.func62,Tryd.ntmps62
      go_wp2_with (first|(go_at_call 80;(with_reducible refine (stringslite_Index.calls a0 a1 t422 _ A3.out).mono ?_);rintro e w' ⟨rfl,⟨nd,rfl⟩⟩;(try first|exact ⟨rfl,_,World.drewN_drewN _ _ _⟩|exact ⟨rfl,_,Eq.trans (World.drewN_drewN _ _ _) (congrArg (World.drewN _) (Nat.add_assoc _ _ _))⟩)))
      repeat (go_quiet (first|(go_at_call 80;(with_reducible refine (stringslite_Index.calls a0 a1 t422 _ A3.out).mono ?_);rintro e w' ⟨rfl,⟨nd,rfl⟩⟩;(try first|exact ⟨rfl,_,World.drewN_drewN _ _ _⟩|exact ⟨rfl,_,Eq.trans (World.drewN_drewN _ _ _) (congrArg (World.drewN _) (Nat.add_assoc _ _ _))⟩)));try go_wp2_with (first|(go_at_call 80;(with_reducible refine (stringslite_Index.calls a0 a1 t422 _ A3.out).mono ?_);rintro e w' ⟨rfl,⟨nd,rfl⟩⟩;(try first|exact ⟨rfl,_,World.drewN_drewN _ _ _⟩|exact ⟨rfl,_,Eq.trans (World.drewN_drewN _ _ _) (congrArg (World.drewN _) (Nat.add_assoc _ _ _))⟩))))
      go_ret3
      exact ⟨by first|rfl|(simp only [i64_w,i32_w] <;> rfl)|(simp;done)|(simp only [← hji7] <;> (first|rfl|simp))|(simp [*];done),by repeat (first|exact Drawn0.refl _|apply Drawn0.step)⟩
     ·rw [if_neg c9] at H
      exact absurd H (by simp)
    ·rw [if_neg c8] at H
     exact absurd H (by simp)
   ·rw [if_neg c6] at H
    exact absurd H (by simp)
  ·rw [if_neg c5] at H
   exact absurd H (by simp)
 ·rw [if_neg c4] at H
  have c4b0:decide (0 ≤ t422) = false:=decide_eq_false c4
  clear c4
  simp only [Option.some.injEq,Prod.mk.injEq] at H
  obtain ⟨rfl,rfl,rfl⟩:=H
  go_enter Tryd.func62,Tryd.ntmps62
  go_wp2_with (first|(go_at_call 80;(with_reducible refine (stringslite_Index.calls a0 a1 t422 _ A3.out).mono ?_);rintro e w' ⟨rfl,⟨nd,rfl⟩⟩;(try first|exact ⟨rfl,_,World.drewN_drewN _ _ _⟩|exact ⟨rfl,_,Eq.trans (World.drewN_drewN _ _ _) (congrArg (World.drewN _) (Nat.add_assoc _ _ _))⟩)))
  repeat (go_quiet (first|(go_at_call 80;(with_reducible refine (stringslite_Index.calls a0 a1 t422 _ A3.out).mono ?_);rintro e w' ⟨rfl,⟨nd,rfl⟩⟩;(try first|exact ⟨rfl,_,World.drewN_drewN _ _ _⟩|exact ⟨rfl,_,Eq.trans (World.drewN_drewN _ _ _) (congrArg (World.drewN _) (Nat.add_assoc _ _ _))⟩)));try go_wp2_with (first|(go_at_call 80;(with_reducible refine (stringslite_Index.calls a0 a1 t422 _ A3.out).mono ?_);rintro e w' ⟨rfl,⟨nd,rfl⟩⟩;(try first|exact ⟨rfl,_,World.drewN_drewN _ _ _⟩|exact ⟨rfl,_,Eq.trans (World.drewN_drewN _ _ _) (congrArg (World.drewN _) (Nat.add_assoc _ _ _))⟩))))
  go_ret3
  exact ⟨by first|rfl|(simp;done)|(simp only [i64_w,i32_w] <;> rfl)|(simp [*];done)|(simp [emp_bne,emp_beq];done),by repeat (first|exact Drawn0.refl _|apply Drawn0.step)⟩

/-! ### strings_Cut: function 36 -/
def strings_Cut.f (a0:ByteArray) (a1:ByteArray):Option (ByteArray × ByteArray × Bool):=(stringslite_Cut.f a0 a1).bind fun bt423=>(some (bt423.1,bt423.2.1,bt423.2.2))
theorem strings_Cut.calls (a0:ByteArray) (a1:ByteArray) (r1:ByteArray) (r2:ByteArray) (r3:Bool) (w:World) (h:strings_Cut.f a0 a1 = some (r1,r2,r3)) :
  Calls Tryd.prog 36 #[.string a0, .string a1] w fun e w'=>e = .returned (.tuple #[.string r1, .string r2, .bool r3]) ∧ Drawn0 w w':=by
 have H:((stringslite_Cut.f a0 a1).bind fun bt423=>(some (bt423.1,bt423.2.1,bt423.2.2))) = some (r1,r2,r3):=h
 clear h
 replace H:=bI H
 obtain ⟨⟨t423,t424,t425⟩,A30,H⟩:=H
 replace H:(some (t423,t424,t425)) = some (r1,r2,r3):=H
 have A3:=Am A30
 clear A30
 simp only [Option.some.injEq,Prod.mk.injEq] at H
 obtain ⟨rfl,rfl,rfl⟩:=H
 go_enter Tryd.func36,Tryd.ntmps36
 go_wp2_with (first|((with_reducible refine gate_callee (f:=62) rfl ?_);refine goesL_ (some 9) rfl rfl Tryd.func62 (by kernel_rfl) rfl #[.string a0, .string a1] rfl (aE2 rfl rfl) ?_;(with_reducible refine (stringslite_Cut.calls a0 a1 t423 t424 t425 _ A3.out).mono ?_);rintro e w' ⟨rfl,⟨nd,rfl⟩⟩;refine ⟨_,rfl,?_⟩))
 go_ret3
 exact ⟨by first|rfl|(simp;done)|(simp only [i64_w,i32_w] <;> rfl)|(simp [*];done)|(simp [emp_bne,emp_beq];done),by repeat (first|exact Drawn0.refl _|apply Drawn0.step)⟩

/-! ### stringslite_HasPrefix: function 63 -/
def stringslite_HasPrefix.f (a0:ByteArray) (a1:ByteArray):Option (Bool):=if (a0.size:Int) ≥ (a1.size:Int) then (if 0 ≤ (a1.size:Int) then (if (a1.size:Int) ≤ (a0.size:Int) then (some ((a0.extract 0 ((a1.size:Int):Int).toNat).toList == a1.toList)) else (none)) else (none)) else (some false)
theorem stringslite_HasPrefix.calls (a0:ByteArray) (a1:ByteArray) (r:Bool) (w:World) (h:stringslite_HasPrefix.f a0 a1 = some r) :
  Calls Tryd.prog 63 #[.string a0, .string a1] w fun e w'=>e = .returned (.bool r) ∧ Drawn0 w w':=by
 have H:(if (a0.size:Int) ≥ (a1.size:Int) then (if 0 ≤ (a1.size:Int) then (if (a1.size:Int) ≤ (a0.size:Int) then (some ((a0.extract 0 ((a1.size:Int):Int).toNat).toList == a1.toList)) else (none)) else (none)) else (some false)) = some r:=h
 clear h
 by_cases c3:(a0.size:Int) ≥ (a1.size:Int)
 ·rw [if_pos c3] at H
  have c3b0:decide ((a1.size:Int) ≤ (a0.size:Int)) = true:=decide_eq_true c3
  have c3b1:decide (a1.size ≤ a0.size) = true:=decide_eq_true (Int.ofNat_le.mp c3)
  clear c3
  by_cases c4:0 ≤ (a1.size:Int)
  ·rw [if_pos c4] at H
   have c4b0:=eq_true c4
   have c4b1:=decide_eq_true c4
   clear c4
   by_cases c5:(a1.size:Int) ≤ (a0.size:Int)
   ·rw [if_pos c5] at H
    have c5b0:=eq_true c5
    have c5b1:=decide_eq_true c5
    clear c5
    obtain rfl:=Option.some.inj H
    go_enter Tryd.func63,Tryd.ntmps63
    go_wp2
    go_ret
    exact ⟨by first|rfl|(simp;done)|(simp only [i64_w,i32_w] <;> rfl)|(simp [*];done)|(simp [emp_bne,emp_beq];done),by repeat (first|exact Drawn0.refl _|apply Drawn0.step)⟩
   ·rw [if_neg c5] at H
    exact absurd H (by simp)
  ·rw [if_neg c4] at H
   exact absurd H (by simp)
 ·rw [if_neg c3] at H
  have c3b0:decide ((a1.size:Int) ≤ (a0.size:Int)) = false:=decide_eq_false c3
  have c3b1:decide (a1.size ≤ a0.size) = false:=decide_eq_false (fun h=>c3 (Int.ofNat_le.mpr h))
  clear c3
  obtain rfl:=Option.some.inj H
  go_enter Tryd.func63,Tryd.ntmps63
  go_wp2
  go_ret
  exact ⟨by first|rfl|(simp;done)|(simp only [i64_w,i32_w] <;> rfl)|(simp [*];done)|(simp [emp_bne,emp_beq];done),by repeat (first|exact Drawn0.refl _|apply Drawn0.step)⟩

/-! ### strings_HasPrefix: function 37 -/
def strings_HasPrefix.f (a0:ByteArray) (a1:ByteArray):Option (Bool):=(stringslite_HasPrefix.f a0 a1).bind fun t426=>(some t426)
theorem strings_HasPrefix.calls (a0:ByteArray) (a1:ByteArray) (r:Bool) (w:World) (h:strings_HasPrefix.f a0 a1 = some r) :
  Calls Tryd.prog 37 #[.string a0, .string a1] w fun e w'=>e = .returned (.bool r) ∧ Drawn0 w w':=by
 have H:((stringslite_HasPrefix.f a0 a1).bind fun t426=>(some t426)) = some r:=h
 clear h
 replace H:=bI H
 obtain ⟨t426,A30,H⟩:=H
 replace H:(some t426) = some r:=H
 have A3:=Am A30
 clear A30
 obtain rfl:=Option.some.inj H
 go_enter Tryd.func37,Tryd.ntmps37
 go_wp2_with (first|((with_reducible refine gate_callee (f:=63) rfl ?_);refine goesL_ (some 7) rfl rfl Tryd.func63 (by kernel_rfl) rfl #[.string a0, .string a1] rfl (aE2 rfl rfl) ?_;(with_reducible refine (stringslite_HasPrefix.calls a0 a1 t426 _ A3.out).mono ?_);rintro e w' ⟨rfl,⟨nd,rfl⟩⟩;refine ⟨_,rfl,?_⟩))
 go_ret
 exact ⟨by first|rfl|(simp;done)|(simp only [i64_w,i32_w] <;> rfl)|(simp [*];done)|(simp [emp_bne,emp_beq];done),by repeat (first|exact Drawn0.refl _|apply Drawn0.step)⟩

/-! ### slices_Clone_string_string: function 39 -/
def slices_Clone_string_string.f (l0:List ByteArray):Option (List ByteArray):=if l0.length * 16 ≤ 140737488355328 then some l0 else none
theorem slices_Clone_string_string.own {w:World} {base n:Nat} {v:Value} {xs:List ByteArray} (h:w.ownsRow base 9 1 v n (xs.map Value.string)) (hn:n = xs.length):Kd.R Kd.string 9 w base (fun _=>True) v xs:=by
 subst hn
 exact Kd.R_of_own h (fun _ _=>trivial)
theorem slices_Clone_string_string.calls (A0:Option Addr) (c0:Nat) (l0:List ByteArray) (r:List ByteArray) (w:World) (hr0:Kd.C Kd.string w A0 l0.length l0) (hc0:l0.length ≤ c0) (h:slices_Clone_string_string.f l0 = some r) :
  Calls Tryd.prog 39 #[.slice A0 l0.length c0] w fun e w'=>∃ v0_:Value,e = .returned (v0_) ∧ Kd.R Kd.string 9 w' w.heap.size (fun _=>True) v0_ r ∧ Below w.heap.size w w':=by
 unfold slices_Clone_string_string.f at h
 split at h
 rotate_left
 ·cases h
 rename_i hb
 obtain rfl:=Option.some.inj h
 cases l0 with
 | nil =>
  cases A0 with
  | none=>exact (Tryd.slices_Clone_string_nil 0 c0 w).mono fun e w' ⟨he,hw⟩=>⟨_,he,by rw [hw];exact Kd.R_nil _ _ _ _ _,hw ▸ Below.refl _ _⟩
  | some ad=>exact (Tryd.slices_Clone_string_zero ad c0 w).mono fun e w' ⟨v',he,ho,_,hbl⟩=>⟨v',he,slices_Clone_string_string.own (xs:=[]) ho rfl,hbl⟩
 | cons x l =>
  obtain ⟨ad,rfl,hc⟩:=hr0.2.2 (by simp)
  have hcell:∀ (j:Nat) y,(x :: l)[j]? = some y → w.cell? (ad.add j) = some (.string y):=fun j y hy=>by
   obtain ⟨c,_,hK,hcc⟩:=hc j y hy
   have hK':c = [.string y]:=hK
   subst hK'
   have:=hcc 0 _ rfl
   rwa [show j * Kd.string.sz + 0 = j by show j * 1 + 0 = j;omega] at this
  have h0:∃ u,w.cell? (ad.add 0) = some u:=⟨_,hcell 0 x rfl⟩
  have hp:=fun (j:Nat) y (hy:(x :: l)[j]? = some y)=>(strings_Join.plain (hcell j y hy) h0).1
  have hs:=(strings_Join.plain (hcell 0 x rfl) h0).2
  have:=Tryd.slices_Clone_string ad.block ad.off (x :: l).length c0 (x :: l) w (Nat.le_refl _) hb (fun j hj=>by
   rw [List.getD_eq_getElem?_getD,List.getElem?_eq_getElem hj]
   exact hp j _ (List.getElem?_eq_getElem hj))
  rw [show (⟨ad.block,ad.off,none⟩:Addr) = ad by cases ad;simp_all,List.take_length] at this
  exact this.mono fun e w' ⟨v',he,ho,_,hbl⟩=>⟨v',he,slices_Clone_string_string.own ho rfl,hbl⟩

/-! ### strings_explode: function 99 -/
def strings_explode.f (_a0:ByteArray) (_a1:Int):Option (List ByteArray):=none
theorem strings_explode.calls (a0:ByteArray) (a1:Int) (r:List ByteArray) (w:World) (h:strings_explode.f a0 a1 = some r) :
  Calls Tryd.prog 99 #[.string a0, .int .i64 a1] w fun e w'=>∃ v0_:Value,e = .returned (v0_) ∧ Kd.R Kd.string 9 w' w.heap.size (fun _=>True) v0_ r ∧ Below w.heap.size w w':=by
 cases h

/-! ### strings_Count: function 100 -/
def strings_Count.f (a0 a1:ByteArray):Option Int:=if a1.size = 1 then some (Go.Lib.countByte a0.data.toList (a1.data.toList.headD 0)) else none
set_option maxHeartbeats 1000000 in
set_option maxRecDepth 100000 in
theorem strings_Count.calls (a0 a1:ByteArray) (r:Int) (w:World) (h:strings_Count.f a0 a1 = some r) :
  Calls Tryd.prog 100 #[.string a0, .string a1] w fun e w'=>e = .returned (.int .i64 r) ∧ ∃ nd,w' = w.drewN nd:=by
 unfold strings_Count.f at h
 split at h
 rotate_left
 ·cases h
 rename_i hs
 obtain rfl:=Option.some.inj h
 clear h
 have HH:=Am (show ∀ h:0 < a1.size,((a1[0]'h).toNat:Int).toNat.toUInt8 = a1.data.toList.headD 0 by
  obtain ⟨c,rfl⟩:=Go.Lib.one_byte a1 hs
  intro _
  show ((c.toNat:Int)).toNat.toUInt8 = c
  simp)
 have h0:(((a1.size:Nat):Int) == 0) = false:=by rw [hs];rfl
 have h1:(((a1.size:Nat):Int) == 1) = true:=by rw [hs];rfl
 have hlt:0 < a1.size:=by omega
 generalize hx:a1.data.toList.headD 0 = x at HH ⊢
 clear hs hx
 go_enter Tryd.func100,Tryd.ntmps100
 go_wp2
 rw [run_callFunc_extern Tryd.func108 (by kernel_rfl) (by kernel_rfl) (by kernel_rfl) (e:=Extern.BytealgCount.count) (by kernel_rfl),Go.Lib.run_countString,HH.out hlt]
 simp only [Result.andThen]
 rw [Oper.upon_value]
 go_wp2
 go_ret
 exact ⟨rfl,0,rfl⟩

/-! ### strings_Index: function 101 -/
def strings_Index.f (a0:ByteArray) (a1:ByteArray):Option (Int):=(stringslite_Index.f a0 a1).bind fun t427=>(some t427)
theorem strings_Index.calls (a0:ByteArray) (a1:ByteArray) (r:Int) (w:World) (h:strings_Index.f a0 a1 = some r) :
  Calls Tryd.prog 101 #[.string a0, .string a1] w fun e w'=>e = .returned (.int .i64 r) ∧ Drawn0 w w':=by
 have H:((stringslite_Index.f a0 a1).bind fun t427=>(some t427)) = some r:=h
 clear h
 replace H:=bI H
 obtain ⟨t427,A30,H⟩:=H
 replace H:(some t427) = some r:=H
 have A3:=Am A30
 clear A30
 obtain rfl:=Option.some.inj H
 go_enter Tryd.func101,Tryd.ntmps101
 go_wp2_with (first|((with_reducible refine gate_callee (f:=80) rfl ?_);refine goesL_ (some 7) rfl rfl Tryd.func80 (by kernel_rfl) rfl #[.string a0, .string a1] rfl (aE2 rfl rfl) ?_;(with_reducible refine (stringslite_Index.calls a0 a1 t427 _ A3.out).mono ?_);rintro e w' ⟨rfl,⟨nd,rfl⟩⟩;refine ⟨_,rfl,?_⟩))
 go_ret
 exact ⟨by first|rfl|(simp;done)|(simp only [i64_w,i32_w] <;> rfl)|(simp [*];done)|(simp [emp_bne,emp_beq];done),by repeat (first|exact Drawn0.refl _|apply Drawn0.step)⟩

/-! ### strings_genSplit: function 88 -/
mutual
def strings_genSplit.j0:Nat → ByteArray → ByteArray → Int → Int → Option (List ByteArray)
 | 0,_,_,_,_=>none
 | k + 1,x0,x1,x2,x3=>if 0 ≤ (mn x3 (wrap64 ((x0.size:Int) + 1))) then (if (mn x3 (wrap64 ((x0.size:Int) + 1)):Int).toNat ≤ 17592186044416 then (strings_genSplit.l0 k x0 x1 x2 (wrap64 ((mn x3 (wrap64 ((x0.size:Int) + 1))) - 1)) (List.replicate (mn x3 (wrap64 ((x0.size:Int) + 1)):Int).toNat (⟨#[]⟩:ByteArray)) 0) else (none)) else (none)
def strings_genSplit.l0:Nat → ByteArray → ByteArray → Int → Int → List ByteArray → Int → Option (List ByteArray)
 | 0,_,_,_,_,_,_=>none
 | k + 1,x0,x1,x2,x3,x9,x10=>if x10 < x3 then ((strings_Index.f x0 x1).bind fun t435=>(if t435 < 0 then (if 0 ≤ x10 then (if x10 < (x9.length:Int) then (if 0 ≤ (wrap64 (x10 + 1)) then (if (wrap64 (x10 + 1)) ≤ (x9.length:Int) then (some ((x9.set (x10:Int).toNat x0).take ((wrap64 (x10 + 1)):Int).toNat)) else (none)) else (none)) else (none)) else (none)) else (if 0 ≤ (wrap64 (t435 + x2)) then (if (wrap64 (t435 + x2)) ≤ (x0.size:Int) then (if 0 ≤ x10 then (if x10 < (x9.length:Int) then (if 0 ≤ (wrap64 (t435 + (x1.size:Int))) then (if (wrap64 (t435 + (x1.size:Int))) ≤ (x0.size:Int) then (strings_genSplit.l0 k (x0.extract ((wrap64 (t435 + (x1.size:Int))):Int).toNat x0.size) x1 x2 x3 (x9.set (x10:Int).toNat (x0.extract 0 ((wrap64 (t435 + x2)):Int).toNat)) (wrap64 (x10 + 1))) else (none)) else (none)) else (none)) else (none)) else (none)) else (none)))) else (if 0 ≤ x10 then (if x10 < (x9.length:Int) then (if 0 ≤ (wrap64 (x10 + 1)) then (if (wrap64 (x10 + 1)) ≤ (x9.length:Int) then (some ((x9.set (x10:Int).toNat x0).take ((wrap64 (x10 + 1)):Int).toNat)) else (none)) else (none)) else (none)) else (none))
end
def strings_genSplit.f (k:Nat) (a0:ByteArray) (a1:ByteArray) (a2:Int) (a3:Int):Option (List ByteArray):=if a3 = 0 then (some ([]:List ByteArray)) else (if a1.toList = ([]:List UInt8) then ((strings_explode.f a0 a3).bind fun t428=>(some t428)) else (if a3 < 0 then ((strings_Count.f a0 a1).bind fun t431=>(strings_genSplit.j0 k a0 a1 a2 (wrap64 (t431 + 1)))) else (strings_genSplit.j0 k a0 a1 a2 a3)))
theorem strings_genSplit.mono_l:∀ k,(∀ y0 y1 y2 y3,LeO (strings_genSplit.j0 k y0 y1 y2 y3) (strings_genSplit.j0 (k + 1) y0 y1 y2 y3)) ∧ (∀ y0 y1 y2 y3 y4 y5,LeO (strings_genSplit.l0 k y0 y1 y2 y3 y4 y5) (strings_genSplit.l0 (k + 1) y0 y1 y2 y3 y4 y5))
 | 0=>⟨fun _ _ _ _ r h=>by simp [strings_genSplit.j0] at h,fun _ _ _ _ _ _ r h=>by simp [strings_genSplit.l0] at h⟩
 | k + 1=>by
  obtain ⟨ih0,ih1⟩:=strings_genSplit.mono_l k
  refine ⟨?_,?_⟩
  ·intro y0 y1 y2 y3
   unfold strings_genSplit.j0
   repeat' first
   | (with_reducible apply ih0)
   | (with_reducible apply ih1)
   | (with_reducible exact LeO.refl _)
   | (with_reducible exact LeO.none _)
   | (with_reducible refine LeO.ite ?_ ?_)
   | (with_reducible refine LeO.bind ?_ (fun _=>?_))





  ·intro y0 y1 y2 y3 y4 y5
   unfold strings_genSplit.l0
   repeat' first
   | (with_reducible apply ih0)
   | (with_reducible apply ih1)
   | (with_reducible exact LeO.refl _)
   | (with_reducible exact LeO.none _)
   | (with_reducible refine LeO.ite ?_ ?_)
   | (with_reducible refine LeO.bind ?_ (fun _=>?_))





theorem strings_genSplit.mono:∀ a0 a1 a2 a3 k,LeO (strings_genSplit.f k a0 a1 a2 a3) (strings_genSplit.f (k + 1) a0 a1 a2 a3):=by
 intro a0 a1 a2 a3 k
 obtain ⟨ih0,ih1⟩:=strings_genSplit.mono_l k
 unfold strings_genSplit.f
 repeat' first
   | (with_reducible apply ih0)
   | (with_reducible apply ih1)
   | (with_reducible exact LeO.refl _)
   | (with_reducible exact LeO.none _)
   | (with_reducible refine LeO.ite ?_ ?_)
   | (with_reducible refine LeO.bind ?_ (fun _=>?_))





theorem strings_genSplit.calls (k:Nat) (a0:ByteArray) (a1:ByteArray) (a2:Int) (a3:Int) (r:List ByteArray) (w:World) (h:strings_genSplit.f k a0 a1 a2 a3 = some r) :
  Calls Tryd.prog 88 #[.string a0, .string a1, .int .i64 a2, .int .i64 a3] w fun e w'=>∃ v0_:Value,e = .returned (v0_) ∧ Kd.R Kd.string 9 w' w.heap.size (fun _=>True) v0_ r ∧ Below w.heap.size w w':=by
 have HB:=Am (Below.refl w.heap.size w)
 have H:(if a3 = 0 then (some ([]:List ByteArray)) else (if a1.toList = ([]:List UInt8) then ((strings_explode.f a0 a3).bind fun t428=>(some t428)) else (if a3 < 0 then ((strings_Count.f a0 a1).bind fun t431=>(strings_genSplit.j0 k a0 a1 a2 (wrap64 (t431 + 1)))) else (strings_genSplit.j0 k a0 a1 a2 a3)))) = some r:=h
 clear h
 by_cases c5:a3 = 0
 ·rw [if_pos c5] at H
  have c5b0:(a3 == 0) = true:=beq_iff_eq.mpr c5
  have c5b1:(a3 != 0) = false:=bne_eq_false_iff_eq.mpr c5
  clear c5
  obtain rfl:=Option.some.inj H
  go_enter Tryd.func88,Tryd.ntmps88
  go_wp2
  go_ret
  exact ⟨_,by first|rfl|(simp <;> rfl)|(simp [*] <;> rfl),by first|exact Kd.R_nil _ _ _ _ _|exact Kd.N_nil _ _ _ _ _|exact Kd.V_nil _ _ _ _ _|exact Kd.Q_nil _ _ _ _ _|exact Kd.S_nil _ _ _ _ _,by repeat (first|(with_reducible first|exact HB.out|apply bA|apply bN|apply bD)|exact HB.out)⟩
 ·rw [if_neg c5] at H
  have c5b0:(a3 == 0) = false:=beq_eq_false_iff_ne.mpr c5
  have c5b1:(a3 != 0) = true:=bne_iff_ne.mpr c5
  by_cases c6:a1.toList = ([]:List UInt8)
  ·rw [if_pos c6] at H
   (try (have c6b0:a1.toList.isEmpty = true:=by simpa using c6))
   have c6b1:(a1.toList == ([]:List UInt8)) = true:=beq_iff_eq.mpr c6
   have c6b2:(a1.toList != ([]:List UInt8)) = false:=bne_eq_false_iff_eq.mpr c6
   clear c6
   replace H:=bI H
   obtain ⟨t428,A70,H⟩:=H
   replace H:(some t428) = some r:=H
   have A7:=Am A70
   clear A70
   obtain rfl:=Option.some.inj H
   go_enter Tryd.func88,Tryd.ntmps88
   go_wp2_with (first|((with_reducible refine gate_callee (f:=99) rfl ?_);refine goesL_ (some 18) rfl rfl Tryd.func99 (by kernel_rfl) rfl #[.string a0, .int .i64 a3] rfl (aE2 rfl rfl) ?_;(with_reducible refine (strings_explode.calls a0 a3 t428 _ A7.out).mono ?_);rintro e w8 ⟨v429,rfl,ho0,hb⟩;refine ⟨_,rfl,?_⟩;have n0_:=Am (Kd.R_lower ho0 (bU (by repeat (first|(with_reducible first|exact HB.out|apply bA|apply bN|apply bD)|exact HB.out))));have n1_:=Am (bT (by repeat (first|(with_reducible first|exact HB.out|apply bA|apply bN|apply bD)|exact HB.out)) hb);clear HB;have HO430:=n0_;have HB:=n1_;clear n0_ n1_;(try clear hb);(try clear ho0)))
   go_ret
   exact ⟨_,by first|rfl|(simp <;> rfl)|(simp [*] <;> rfl),by (with_reducible repeat (first|apply rA|apply rN|apply rD));exact HO430.out,by repeat (first|(with_reducible first|exact HB.out|apply bA|apply bN|apply bD)|exact HB.out)⟩
  ·rw [if_neg c6] at H
   (try (have c6b0:a1.toList.isEmpty = false:=by simpa using c6))
   have c6b1:(a1.toList == ([]:List UInt8)) = false:=beq_eq_false_iff_ne.mpr c6
   have c6b2:(a1.toList != ([]:List UInt8)) = true:=bne_iff_ne.mpr c6
   have HC9:=Am H
   clear H
   go_enter Tryd.func88,Tryd.ntmps88
   go_upto_if 20 with (fail)
   go_cut [3] (fun v3 wc=>∃ (kq:Nat) (x3_8:Int),v3 = .int .i64 x3_8 ∧ Aside0 (strings_genSplit.j0 kq a0 a1 a2 x3_8 = some r) ∧ Aside0 (kq ≤ k) ∧ Aside0 (Below w.heap.size w wc))
   case first =>
    have H:=HC9.out
    clear HC9
    by_cases c10:a3 < 0
    ·rw [if_pos c10] at H
     have c10b0:decide (a3 < 0) = true:=decide_eq_true c10
     clear c10
     (first|rw [c10b0]|(simp only [i64_w,i32_w];rw [c10b0])|skip)
     replace H:=bI H
     obtain ⟨t431,A110,H⟩:=H
     replace H:(strings_genSplit.j0 k a0 a1 a2 (wrap64 (t431 + 1))) = some r:=H
     have A11:=Am A110
     clear A110
     have H':=Am H
     clear H
     go_wp2_with (first|((with_reducible refine gate_callee (f:=100) rfl ?_);refine goesL_ (some 23) rfl rfl Tryd.func100 (by kernel_rfl) rfl #[.string a0, .string a1] rfl (aE2 rfl rfl) ?_;(with_reducible refine (strings_Count.calls a0 a1 t431 _ A11.out).mono ?_);rintro e w' ⟨rfl,⟨nd,rfl⟩⟩;refine ⟨_,rfl,?_⟩))
     go_meet
     case rel=>exact ⟨_,(wrap64 (t431 + 1)),(by first|rfl|(simp;done)|(simp only [i64_w,i32_w] <;> rfl)|(simp [*];done)|(simp [emp_bne,emp_beq];done)),H',⟨by first|omega|exact Nat.le_refl _⟩,⟨by repeat (first|(with_reducible first|exact HB.out|apply bA|apply bN|apply bD)|exact HB.out)⟩⟩
    ·rw [if_neg c10] at H
     have c10b0:decide (a3 < 0) = false:=decide_eq_false c10
     clear c10
     (first|rw [c10b0]|(simp only [i64_w,i32_w];rw [c10b0])|skip)
     have H':=Am H
     clear H
     go_wp2
     go_meet
     case rel=>exact ⟨_,(a3),(by first|rfl|(simp;done)|(simp only [i64_w,i32_w] <;> rfl)|(simp [*];done)|(simp [emp_bne,emp_beq];done)),H',⟨by first|omega|exact Nat.le_refl _⟩,⟨by repeat (first|(with_reducible first|exact HB.out|apply bA|apply bN|apply bD)|exact HB.out)⟩⟩
   case rest =>
    clear HC9
    try clear c1
    try clear p2
    try clear c5
    try clear c5b0
    try clear c5b1
    try clear c6
    try clear c6b0
    try clear c6b1
    try clear c6b2
    try clear p6
    try clear c8
    try clear c9
    try clear c10
    try clear c10b0
    obtain ⟨kq,x3_8,rfl,HA,HJ8,HB⟩:=hcut
    cases kq with
    | zero=>exact absurd HA.out (by simp [strings_genSplit.j0])
    | succ kj8 =>
     have H:=HA.out
     clear HA
     simp only [strings_genSplit.j0] at H
     obtain ⟨ji12,hji12⟩:∃ j_:Int,(mn x3_8 (wrap64 ((a0.size:Int) + 1))) = j_:=⟨_,rfl⟩
     replace H:(if 0 ≤ (ji12) then (if (ji12:Int).toNat ≤ 17592186044416 then (strings_genSplit.l0 kj8 a0 a1 a2 (wrap64 ((ji12) - 1)) (List.replicate (ji12:Int).toNat (⟨#[]⟩:ByteArray)) 0) else (none)) else (none)) = some r:=by first|(rw [hji12] at H;exact H)|(simp only [hji12] at H ⊢;exact H)
     have hji12_:(if (wrap64 ((a0.size:Int) + 1)) < x3_8 then (wrap64 ((a0.size:Int) + 1)) else x3_8) = ji12:=hji12
     by_cases c13:0 ≤ (ji12)
     ·rw [if_pos c13] at H
      have c13b0:=eq_true c13
      have c13b1:=decide_eq_true c13
      clear c13
      by_cases c14:(ji12:Int).toNat ≤ 17592186044416
      ·rw [if_pos c14] at H
       have c14b0:=eq_true c14
       have c14b1:=decide_eq_true c14
       clear c14
       obtain ⟨y432,hy432⟩:∃ y_:List ByteArray,y_ = (List.replicate (ji12:Int).toNat (⟨#[]⟩:ByteArray)):=⟨_,rfl⟩
       replace H:(strings_genSplit.l0 kj8 a0 a1 a2 (wrap64 ((ji12) - 1)) y432 0) = some r:=by first|(rw [hy432];with_reducible exact H)|(have H2_:=(Option.bind_some _ _).symm.trans H;rw [hy432];with_reducible exact H2_)|(have H2_:=(Option.bind_some _ _).symm.trans H;with_reducible exact H2_)|with_reducible exact H|(rw [hy432];exact H)|exact H
       have Ny432:=Am hy432
       clear hy432
       have H':=Am H
       clear H
       go_wp2_with (first|((with_reducible refine gate_dst (N:=31) rfl ?_);refine Kd.R_make Kd.string _ 9 rfl (N:=31) rfl 23 _ _ rfl ji12 rfl rfl Tryd.underlying23 (.string ⟨#[]⟩) 16 info9 rfl (by decide) (by omega) (⟨#[]⟩:ByteArray) (ok:=fun _=>True) (okp:=fun _=>True) rfl (fun _ hk=>hk) trivial (oD (by assumption)) (Nat.le_trans (Nat.mul_le_mul_right _ (oD (by assumption):ji12.toNat ≤ 17592186044416)) (by omega)) (Below.refl _ _) (Nat.le_refl _) ?_;intro v433 w15 ho16 hb hg_ hnew_;clear hg_ hnew_;(first|rw [← Ny432.out] at ho16|(simp only [Int.reduceToNat] at ho16;rw [← Ny432.out] at ho16));have n0_:=Am (Kd.R_lower ho16 (bU (by repeat (first|(with_reducible first|exact HB.out|apply bA|apply bN|apply bD)|exact HB.out))));have n1_:=Am (bT (by repeat (first|(with_reducible first|exact HB.out|apply bA|apply bN|apply bD)|exact HB.out)) hb);clear HB;have HO434:=n0_;have HB:=n1_;clear n0_ n1_ hb ho16))
       go_loopg [0,10] kj8 (fun kq v0 v10 w'=>∃ (x0_2:ByteArray) (x9_2:List ByteArray) (x10_2:Int),v0 = .string x0_2 ∧ v10 = .int .i64 x10_2 ∧ Aside0 (strings_genSplit.l0 kq x0_2 a1 a2 (wrap64 ((ji12) - 1)) x9_2 x10_2 = some r) ∧ Aside0 (kq ≤ kj8) ∧ Aside0 (Kd.R Kd.string 9 w' w.heap.size (fun _=>True) v433 x9_2) ∧ Aside0 (Below w.heap.size w w'))
       case atStart=>exact ⟨(a0),(y432),(0),(by first|rfl|(simp;done)|(simp only [i64_w,i32_w] <;> rfl)|(simp [*];done)|(simp [emp_bne,emp_beq];done)),(by first|rfl|(simp;done)|(simp only [i64_w,i32_w] <;> rfl)|(simp [*];done)|(simp [emp_bne,emp_beq];done)),H',⟨Nat.le_refl _⟩,⟨by (with_reducible repeat (first|apply rA|apply rN|apply rD));exact HO434.out⟩,⟨by repeat (first|(with_reducible first|exact HB.out|apply bA|apply bN|apply bD)|exact HB.out)⟩⟩
       case round =>
        clear H'
        try clear c1
        try clear p2
        try clear c5
        try clear c5b0
        try clear c5b1
        try clear c6
        try clear c6b0
        try clear c6b1
        try clear c6b2
        try clear p6
        try clear c8
        try clear c9
        try clear c10
        try clear c10b0
        try clear c13
        try clear c13b0
        try clear c13b1
        try clear c14
        try clear c14b0
        try clear c14b1
        try clear p2
        try clear p6
        obtain ⟨x0_2,x9_2,x10_2,rfl,rfl,HA,HK2,HO_9,HB⟩:=hrel
        cases gk with
        | zero=>exact absurd HA.out (by simp [strings_genSplit.l0])
        | succ k2 =>
         have H:=HA.out
         clear HA
         simp only [strings_genSplit.l0] at H
         by_cases c17:x10_2 < (wrap64 ((ji12) - 1))
         ·rw [if_pos c17] at H
          have c17b0:decide (x10_2 < (wrap64 ((ji12) - 1))) = true:=decide_eq_true c17
          clear c17
          replace H:=bI H
          obtain ⟨t435,A180,H⟩:=H
          replace H:(if t435 < 0 then (if 0 ≤ x10_2 then (if x10_2 < (x9_2.length:Int) then (if 0 ≤ (wrap64 (x10_2 + 1)) then (if (wrap64 (x10_2 + 1)) ≤ (x9_2.length:Int) then (some ((x9_2.set (x10_2:Int).toNat x0_2).take ((wrap64 (x10_2 + 1)):Int).toNat)) else (none)) else (none)) else (none)) else (none)) else (if 0 ≤ (wrap64 (t435 + a2)) then (if (wrap64 (t435 + a2)) ≤ (x0_2.size:Int) then (if 0 ≤ x10_2 then (if x10_2 < (x9_2.length:Int) then (if 0 ≤ (wrap64 (t435 + (a1.size:Int))) then (if (wrap64 (t435 + (a1.size:Int))) ≤ (x0_2.size:Int) then (strings_genSplit.l0 k2 (x0_2.extract ((wrap64 (t435 + (a1.size:Int))):Int).toNat x0_2.size) a1 a2 (wrap64 ((ji12) - 1)) (x9_2.set (x10_2:Int).toNat (x0_2.extract 0 ((wrap64 (t435 + a2)):Int).toNat)) (wrap64 (x10_2 + 1))) else (none)) else (none)) else (none)) else (none)) else (none)) else (none))) = some r:=H
          have A18:=Am A180
          clear A180
          by_cases c19:t435 < 0
          ·rw [if_pos c19] at H
           have c19b0:decide (t435 < 0) = true:=decide_eq_true c19
           clear c19
           by_cases c20:0 ≤ x10_2
           ·rw [if_pos c20] at H
            have c20b0:decide (0 ≤ x10_2) = true:=decide_eq_true c20
            clear c20
            by_cases c21:x10_2 < (x9_2.length:Int)
            ·rw [if_pos c21] at H
             have c21b0:decide (x10_2 < (x9_2.length:Int)) = true:=decide_eq_true c21
             clear c21
             obtain ⟨y436,hy436⟩:∃ y_:List ByteArray,y_ = (x9_2.set (x10_2:Int).toNat x0_2):=⟨_,rfl⟩
             replace H:(if 0 ≤ (wrap64 (x10_2 + 1)) then (if (wrap64 (x10_2 + 1)) ≤ (x9_2.length:Int) then (some (y436.take ((wrap64 (x10_2 + 1)):Int).toNat)) else (none)) else (none)) = some r:=by first|(rw [hy436];with_reducible exact H)|(have H2_:=(Option.bind_some _ _).symm.trans H;rw [hy436];with_reducible exact H2_)|(have H2_:=(Option.bind_some _ _).symm.trans H;with_reducible exact H2_)|with_reducible exact H|(rw [hy436];exact H)|exact H
             have Ny436:=Am hy436
             clear hy436
             obtain ⟨ji23,hji23⟩:∃ j_:Int,(wrap64 (x10_2 + 1)) = j_:=⟨_,rfl⟩
             replace H:(if 0 ≤ (ji23) then (if (ji23) ≤ (x9_2.length:Int) then (some (y436.take ((ji23):Int).toNat)) else (none)) else (none)) = some r:=by first|(rw [hji23] at H;exact H)|(simp only [hji23] at H ⊢;exact H)
             (try rw [hji23] at A18)
             have hji23w:(IntKind.i64.wrap (x10_2 + 1)) = ji23:=(i64_w _).trans hji23
             by_cases c24:0 ≤ (ji23)
             ·rw [if_pos c24] at H
              have c24b0:=eq_true c24
              have c24b1:=decide_eq_true c24
              clear c24
              by_cases c25:(ji23) ≤ (x9_2.length:Int)
              ·rw [if_pos c25] at H
               have c25b0:=eq_true c25
               have c25b1:=decide_eq_true c25
               clear c25
               obtain ⟨y437,hy437⟩:∃ y_:List ByteArray,y_ = (y436.take ((ji23):Int).toNat):=⟨_,rfl⟩
               replace H:(some y437) = some r:=by first|(rw [hy437];with_reducible exact H)|(have H2_:=(Option.bind_some _ _).symm.trans H;rw [hy437];with_reducible exact H2_)|(have H2_:=(Option.bind_some _ _).symm.trans H;with_reducible exact H2_)|with_reducible exact H|(rw [hy437];exact H)|exact H
               have Ny437:=Am hy437
               clear hy437
               obtain rfl:=Option.some.inj H
               go_wp2_with (first|((with_reducible refine gate_callee (f:=101) rfl ?_);refine goesL_ (some 39) rfl rfl Tryd.func101 (by kernel_rfl) rfl #[.string x0_2, .string a1] rfl (aE2 rfl rfl) ?_;(with_reducible refine (strings_Index.calls x0_2 a1 t435 _ A18.out).mono ?_);rintro e w' ⟨rfl,⟨nd,rfl⟩⟩;refine ⟨_,rfl,?_⟩;(try (rw [drewN_self wr];generalize hq_:World.drewN wr _ = wr;have n0_:Aside0 (Kd.R Kd.string 9 wr w.heap.size (fun _=>True) v433 x9_2):=⟨by rw [← hq_];exact (bR HO_9.out)⟩;have n1_:Aside0 (Below w.heap.size w wr):=⟨by rw [← hq_];exact (by repeat (first|(with_reducible first|exact HB.out|apply bA|apply bN|apply bD)|exact HB.out))⟩;clear HO_9 HB hq_;have HO_9:=n0_;have HB:=n1_;clear n0_ n1_));have p22:0 ≤ (x10_2:Int):=oD (by assumption);have q22:(x10_2:Int) < ((x9_2.length:Int):Int):=oD (by assumption);obtain ⟨go22,co22,eo22,gb22,gl22,cl22,HG22⟩:=Kd.R_form HO_9.out (by omega);(first|cases eo22|(injection eo22 with ea_ en_ ec_;(first|subst ea_|(injection ea_ with ea_;subst ea_));subst ec_;clear en_));have GB22:=Am gb22;have GG22:=Am HG22;clear gb22 gl22 HG22;obtain ⟨hx22_0,hf22_0⟩:=Kd.R_celln (⟨#[]⟩:ByteArray) HO_9.out (x10_2:Int) p22 q22;replace p22:=eq_true p22;replace q22:=eq_true q22;obtain ⟨hy26_,hz26_⟩:=Kd.R_celln (⟨#[]⟩:ByteArray) HO_9.out (x10_2:Int) (oD (by assumption)) (oD (by assumption));have HP26:=Kd.R_putg HO_9.out (x10_2:Int) x0_2)|((with_reducible refine gate_store (t:=9) (p:=61) rfl ?_);refine store_event (t:=9) (p:=61) (v:=?vo_w27) (w1:=(wr.setCell ⟨go22,(x10_2:Int).toNat,none⟩ (.string x0_2))) ?hg ?ho ?hn ?hr ?_;(case ho=>rfl);(case hg=>rfl);(case hn=>rfl);(case hr=>(go_simp <;> rfl));intro w27 hw;have hg:wr.grownBy w27 (some go22):=(by rw [hw];exact HP26.2);have hp_:Kd.R Kd.string 9 w27 w.heap.size (fun _=>True) (.slice (some ⟨go22,0,none⟩) x9_2.length co22) y436:=(by rw [hw,Ny436.out];exact HP26.1);clear HP26;have n0_:=Am (hp_);have n1_:=Am ((by rw [hw];exact below_set (HB.out) GB22.out:Below w.heap.size w w27));clear HO_9 HB;have HO_9:=n0_;have HB:=n1_;clear n0_ n1_ hg hw hp_;have q28:((ji23):Int) ≤ ((x9_2.length:Int):Int):=oD (by assumption);obtain ⟨i028,hi028,_,hsz28,_⟩:=info_parts info9;have hcut28:=cut_to (P:=Tryd.prog) 23 9 .i64 Tryd.underlying23 hi028 (some ⟨go22,0,none⟩) x9_2.length co22 (ji23) (oD (by assumption)) q28 (Kd.R_reads' HO_9.out).2.1;have hn_:=(Kd.R_reads' HO_9.out).1;have hr28:=Kd.R_take (m:=((ji23):Int).toNat) HO_9.out (by omega);have hy28:y437.length = ((ji23):Int).toNat:=(by rw [Ny437.out,List.length_take];omega);clear hn_;rw [← Ny437.out] at hr28;rw [← hy28] at hr28 hcut28;clear hy28 hi028 hsz28 HO_9;have HO439:=Am hr28;clear hr28;replace q28:=eq_true q28))
               go_ret
               exact ⟨_,by first|rfl|(simp <;> rfl)|(simp only [← hji12,← hji23];first|rfl|(simp <;> rfl))|(simp [*] <;> rfl),by (with_reducible repeat (first|apply rA|apply rN|apply rD));exact HO439.out,by repeat (first|(with_reducible first|exact HB.out|apply bA|apply bN|apply bD)|exact HB.out)⟩
              ·rw [if_neg c25] at H
               exact absurd H (by simp)
             ·rw [if_neg c24] at H
              exact absurd H (by simp)
            ·rw [if_neg c21] at H
             exact absurd H (by simp)
           ·rw [if_neg c20] at H
            exact absurd H (by simp)
          ·rw [if_neg c19] at H
           have c19b0:decide (t435 < 0) = false:=decide_eq_false c19
           clear c19
           obtain ⟨ji29,hji29⟩:∃ j_:Int,(wrap64 (t435 + a2)) = j_:=⟨_,rfl⟩
           replace H:(if 0 ≤ (ji29) then (if (ji29) ≤ (x0_2.size:Int) then (if 0 ≤ x10_2 then (if x10_2 < (x9_2.length:Int) then (if 0 ≤ (wrap64 (t435 + (a1.size:Int))) then (if (wrap64 (t435 + (a1.size:Int))) ≤ (x0_2.size:Int) then (strings_genSplit.l0 k2 (x0_2.extract ((wrap64 (t435 + (a1.size:Int))):Int).toNat x0_2.size) a1 a2 (wrap64 ((ji12) - 1)) (x9_2.set (x10_2:Int).toNat (x0_2.extract 0 ((ji29):Int).toNat)) (wrap64 (x10_2 + 1))) else (none)) else (none)) else (none)) else (none)) else (none)) else (none)) = some r:=by first|(rw [hji29] at H;exact H)|(simp only [hji29] at H ⊢;exact H)
           (try rw [hji29] at A18)
           have hji29w:(IntKind.i64.wrap (t435 + a2)) = ji29:=(i64_w _).trans hji29
           by_cases c30:0 ≤ (ji29)
           ·rw [if_pos c30] at H
            have c30b0:=eq_true c30
            have c30b1:=decide_eq_true c30
            clear c30
            by_cases c31:(ji29) ≤ (x0_2.size:Int)
            ·rw [if_pos c31] at H
             have c31b0:=eq_true c31
             have c31b1:=decide_eq_true c31
             clear c31
             by_cases c32:0 ≤ x10_2
             ·rw [if_pos c32] at H
              have c32b0:decide (0 ≤ x10_2) = true:=decide_eq_true c32
              clear c32
              by_cases c33:x10_2 < (x9_2.length:Int)
              ·rw [if_pos c33] at H
               have c33b0:decide (x10_2 < (x9_2.length:Int)) = true:=decide_eq_true c33
               clear c33
               obtain ⟨y440,hy440⟩:∃ y_:List ByteArray,y_ = (x9_2.set (x10_2:Int).toNat (x0_2.extract 0 ((ji29):Int).toNat)):=⟨_,rfl⟩
               replace H:(if 0 ≤ (wrap64 (t435 + (a1.size:Int))) then (if (wrap64 (t435 + (a1.size:Int))) ≤ (x0_2.size:Int) then (strings_genSplit.l0 k2 (x0_2.extract ((wrap64 (t435 + (a1.size:Int))):Int).toNat x0_2.size) a1 a2 (wrap64 ((ji12) - 1)) y440 (wrap64 (x10_2 + 1))) else (none)) else (none)) = some r:=by first|(rw [hy440];with_reducible exact H)|(have H2_:=(Option.bind_some _ _).symm.trans H;rw [hy440];with_reducible exact H2_)|(have H2_:=(Option.bind_some _ _).symm.trans H;with_reducible exact H2_)|with_reducible exact H|(rw [hy440];exact H)|exact H
               have Ny440:=Am hy440
               clear hy440
               obtain ⟨ji35,hji35⟩:∃ j_:Int,(wrap64 (t435 + (a1.size:Int))) = j_:=⟨_,rfl⟩
               replace H:(if 0 ≤ (ji35) then (if (ji35) ≤ (x0_2.size:Int) then (strings_genSplit.l0 k2 (x0_2.extract ((ji35):Int).toNat x0_2.size) a1 a2 (wrap64 ((ji12) - 1)) y440 (wrap64 (x10_2 + 1))) else (none)) else (none)) = some r:=by first|(rw [hji35] at H;exact H)|(simp only [hji35] at H ⊢;exact H)
               (try rw [hji35] at A18)
               have hji35w:(IntKind.i64.wrap (t435 + (a1.size:Int))) = ji35:=(i64_w _).trans hji35
               by_cases c36:0 ≤ (ji35)
               ·rw [if_pos c36] at H
                have c36b0:=eq_true c36
                have c36b1:=decide_eq_true c36
                clear c36
                by_cases c37:(ji35) ≤ (x0_2.size:Int)
                ·rw [if_pos c37] at H
                 have c37b0:=eq_true c37
                 have c37b1:=decide_eq_true c37
                 clear c37
                 have H':=Am H
                 clear H
                 go_wp2_with (first|((with_reducible refine gate_callee (f:=101) rfl ?_);refine goesL_ (some 39) rfl rfl Tryd.func101 (by kernel_rfl) rfl #[.string x0_2, .string a1] rfl (aE2 rfl rfl) ?_;(with_reducible refine (strings_Index.calls x0_2 a1 t435 _ A18.out).mono ?_);rintro e w' ⟨rfl,⟨nd,rfl⟩⟩;refine ⟨_,rfl,?_⟩;(try (rw [drewN_self wr];generalize hq_:World.drewN wr _ = wr;have n0_:Aside0 (Kd.R Kd.string 9 wr w.heap.size (fun _=>True) v433 x9_2):=⟨by rw [← hq_];exact (bR HO_9.out)⟩;have n1_:Aside0 (Below w.heap.size w wr):=⟨by rw [← hq_];exact (by repeat (first|(with_reducible first|exact HB.out|apply bA|apply bN|apply bD)|exact HB.out))⟩;clear HO_9 HB hq_;have HO_9:=n0_;have HB:=n1_;clear n0_ n1_));have p34:0 ≤ (x10_2:Int):=oD (by assumption);have q34:(x10_2:Int) < ((x9_2.length:Int):Int):=oD (by assumption);obtain ⟨go34,co34,eo34,gb34,gl34,cl34,HG34⟩:=Kd.R_form HO_9.out (by omega);(first|cases eo34|(injection eo34 with ea_ en_ ec_;(first|subst ea_|(injection ea_ with ea_;subst ea_));subst ec_;clear en_));have GB34:=Am gb34;have GG34:=Am HG34;clear gb34 gl34 HG34;obtain ⟨hx34_0,hf34_0⟩:=Kd.R_celln (⟨#[]⟩:ByteArray) HO_9.out (x10_2:Int) p34 q34;replace p34:=eq_true p34;replace q34:=eq_true q34;obtain ⟨hy38_,hz38_⟩:=Kd.R_celln (⟨#[]⟩:ByteArray) HO_9.out (x10_2:Int) (oD (by assumption)) (oD (by assumption));have HP38:=Kd.R_putg HO_9.out (x10_2:Int) (x0_2.extract 0 ((ji29):Int).toNat))|((with_reducible refine gate_store (t:=9) (p:=49) rfl ?_);refine store_event (t:=9) (p:=49) (v:=?vo_w39) (w1:=(wr.setCell ⟨go34,(x10_2:Int).toNat,none⟩ (.string (x0_2.extract 0 ((ji29):Int).toNat)))) ?hg ?ho ?hn ?hr ?_;(case ho=>rfl);(case hg=>rfl);(case hn=>rfl);(case hr=>(go_simp <;> rfl));intro w39 hw;have hg:wr.grownBy w39 (some go34):=(by rw [hw];exact HP38.2);have hp_:Kd.R Kd.string 9 w39 w.heap.size (fun _=>True) (.slice (some ⟨go34,0,none⟩) x9_2.length co34) y440:=(by rw [hw,Ny440.out];exact HP38.1);clear HP38;have n0_:=Am (hp_);have n1_:=Am ((by rw [hw];exact below_set (HB.out) GB34.out:Below w.heap.size w w39));clear HO_9 HB;have HO_9:=n0_;have HB:=n1_;clear n0_ n1_ hg hw hp_))
                 go_roundg k2
                 case measure=>have:=HJ8.out;have:=HK2.out;omega
                 case rel=>exact ⟨(x0_2.extract ((ji35):Int).toNat x0_2.size),(y440),(wrap64 (x10_2 + 1)),(by first|rfl|(simp only [i64_w,i32_w] <;> rfl)|(simp;done)|(simp only [← hji35] <;> (first|rfl|simp))|(simp [*];done)),(by first|rfl|(simp;done)|(simp only [i64_w,i32_w] <;> rfl)|(simp [*];done)|(simp [emp_bne,emp_beq];done)),H',⟨by have:=HJ8.out;have:=HK2.out;omega⟩,⟨by (with_reducible repeat (first|apply rA|apply rN|apply rD));exact HO_9.out⟩,⟨by repeat (first|(with_reducible first|exact HB.out|apply bA|apply bN|apply bD)|exact HB.out)⟩⟩
                ·rw [if_neg c37] at H
                 exact absurd H (by simp)
               ·rw [if_neg c36] at H
                exact absurd H (by simp)
              ·rw [if_neg c33] at H
               exact absurd H (by simp)
             ·rw [if_neg c32] at H
              exact absurd H (by simp)
            ·rw [if_neg c31] at H
             exact absurd H (by simp)
           ·rw [if_neg c30] at H
            exact absurd H (by simp)
         ·rw [if_neg c17] at H
          have c17b0:decide (x10_2 < (wrap64 ((ji12) - 1))) = false:=decide_eq_false c17
          clear c17
          by_cases c40:0 ≤ x10_2
          ·rw [if_pos c40] at H
           have c40b0:decide (0 ≤ x10_2) = true:=decide_eq_true c40
           clear c40
           by_cases c41:x10_2 < (x9_2.length:Int)
           ·rw [if_pos c41] at H
            have c41b0:decide (x10_2 < (x9_2.length:Int)) = true:=decide_eq_true c41
            clear c41
            obtain ⟨y441,hy441⟩:∃ y_:List ByteArray,y_ = (x9_2.set (x10_2:Int).toNat x0_2):=⟨_,rfl⟩
            replace H:(if 0 ≤ (wrap64 (x10_2 + 1)) then (if (wrap64 (x10_2 + 1)) ≤ (x9_2.length:Int) then (some (y441.take ((wrap64 (x10_2 + 1)):Int).toNat)) else (none)) else (none)) = some r:=by first|(rw [hy441];with_reducible exact H)|(have H2_:=(Option.bind_some _ _).symm.trans H;rw [hy441];with_reducible exact H2_)|(have H2_:=(Option.bind_some _ _).symm.trans H;with_reducible exact H2_)|with_reducible exact H|(rw [hy441];exact H)|exact H
            have Ny441:=Am hy441
            clear hy441
            obtain ⟨ji43,hji43⟩:∃ j_:Int,(wrap64 (x10_2 + 1)) = j_:=⟨_,rfl⟩
            replace H:(if 0 ≤ (ji43) then (if (ji43) ≤ (x9_2.length:Int) then (some (y441.take ((ji43):Int).toNat)) else (none)) else (none)) = some r:=by first|(rw [hji43] at H;exact H)|(simp only [hji43] at H ⊢;exact H)
            have hji43w:(IntKind.i64.wrap (x10_2 + 1)) = ji43:=(i64_w _).trans hji43
            by_cases c44:0 ≤ (ji43)
            ·rw [if_pos c44] at H
             have c44b0:=eq_true c44
             have c44b1:=decide_eq_true c44
             clear c44
             by_cases c45:(ji43) ≤ (x9_2.length:Int)
             ·rw [if_pos c45] at H
              have c45b0:=eq_true c45
              have c45b1:=decide_eq_true c45
              clear c45
              obtain ⟨y442,hy442⟩:∃ y_:List ByteArray,y_ = (y441.take ((ji43):Int).toNat):=⟨_,rfl⟩
              replace H:(some y442) = some r:=by first|(rw [hy442];with_reducible exact H)|(have H2_:=(Option.bind_some _ _).symm.trans H;rw [hy442];with_reducible exact H2_)|(have H2_:=(Option.bind_some _ _).symm.trans H;with_reducible exact H2_)|with_reducible exact H|(rw [hy442];exact H)|exact H
              have Ny442:=Am hy442
              clear hy442
              obtain rfl:=Option.some.inj H
              have p42:0 ≤ (x10_2:Int):=oD (by assumption)
              have q42:(x10_2:Int) < ((x9_2.length:Int):Int):=oD (by assumption)
              obtain ⟨go42,co42,eo42,gb42,gl42,cl42,HG42⟩:=Kd.R_form HO_9.out (by omega)
              (first|cases eo42|(injection eo42 with ea_ en_ ec_;(first|subst ea_|(injection ea_ with ea_;subst ea_));subst ec_;clear en_))
              have GB42:=Am gb42
              have GG42:=Am HG42
              clear gb42 gl42 HG42
              obtain ⟨hx42_0,hf42_0⟩:=Kd.R_celln (⟨#[]⟩:ByteArray) HO_9.out (x10_2:Int) p42 q42
              replace p42:=eq_true p42
              replace q42:=eq_true q42
              have HP46:=Kd.R_putg HO_9.out (x10_2:Int) x0_2
              go_wp2_with (first|((with_reducible refine gate_store (t:=9) (p:=61) rfl ?_);refine store_event (t:=9) (p:=61) (v:=?vo_w47) (w1:=(wr.setCell ⟨go42,(x10_2:Int).toNat,none⟩ (.string x0_2))) ?hg ?ho ?hn ?hr ?_;(case ho=>rfl);(case hg=>rfl);(case hn=>rfl);(case hr=>(go_simp <;> rfl));intro w47 hw;have hg:wr.grownBy w47 (some go42):=(by rw [hw];exact HP46.2);have hp_:Kd.R Kd.string 9 w47 w.heap.size (fun _=>True) (.slice (some ⟨go42,0,none⟩) x9_2.length co42) y441:=(by rw [hw,Ny441.out];exact HP46.1);clear HP46;have n0_:=Am (hp_);have n1_:=Am ((by rw [hw];exact below_set (HB.out) GB42.out:Below w.heap.size w w47));clear HO_9 HB;have HO_9:=n0_;have HB:=n1_;clear n0_ n1_ hg hw hp_;have q48:((ji43):Int) ≤ ((x9_2.length:Int):Int):=oD (by assumption);obtain ⟨i048,hi048,_,hsz48,_⟩:=info_parts info9;have hcut48:=cut_to (P:=Tryd.prog) 23 9 .i64 Tryd.underlying23 hi048 (some ⟨go42,0,none⟩) x9_2.length co42 (ji43) (oD (by assumption)) q48 (Kd.R_reads' HO_9.out).2.1;have hn_:=(Kd.R_reads' HO_9.out).1;have hr48:=Kd.R_take (m:=((ji43):Int).toNat) HO_9.out (by omega);have hy48:y442.length = ((ji43):Int).toNat:=(by rw [Ny442.out,List.length_take];omega);clear hn_;rw [← Ny442.out] at hr48;rw [← hy48] at hr48 hcut48;clear hy48 hi048 hsz48 HO_9;have HO444:=Am hr48;clear hr48;replace q48:=eq_true q48))
              go_ret
              exact ⟨_,by first|rfl|(simp <;> rfl)|(simp only [← hji12,← hji43];first|rfl|(simp <;> rfl))|(simp [*] <;> rfl),by (with_reducible repeat (first|apply rA|apply rN|apply rD));exact HO444.out,by repeat (first|(with_reducible first|exact HB.out|apply bA|apply bN|apply bD)|exact HB.out)⟩
             ·rw [if_neg c45] at H
              exact absurd H (by simp)
            ·rw [if_neg c44] at H
             exact absurd H (by simp)
           ·rw [if_neg c41] at H
            exact absurd H (by simp)
          ·rw [if_neg c40] at H
           exact absurd H (by simp)
      ·rw [if_neg c14] at H
       exact absurd H (by simp)
     ·rw [if_neg c13] at H
      exact absurd H (by simp)

/-! ### strings_Split: function 68 -/
def strings_Split.f (k:Nat) (a0:ByteArray) (a1:ByteArray):Option (List ByteArray):=(strings_genSplit.f k a0 a1 0 (-1)).bind fun t445=>(some t445)
theorem strings_Split.mono:∀ a0 a1 k,LeO (strings_Split.f k a0 a1) (strings_Split.f (k + 1) a0 a1):=by
 intro a0 a1 k
 unfold strings_Split.f
 repeat' first
   | (with_reducible apply strings_genSplit.mono)
   | (with_reducible exact LeO.refl _)
   | (with_reducible exact LeO.none _)
   | (with_reducible refine LeO.ite ?_ ?_)
   | (with_reducible refine LeO.bind ?_ (fun _=>?_))




theorem strings_Split.calls (k:Nat) (a0:ByteArray) (a1:ByteArray) (r:List ByteArray) (w:World) (h:strings_Split.f k a0 a1 = some r) :
  Calls Tryd.prog 68 #[.string a0, .string a1] w fun e w'=>∃ v0_:Value,e = .returned (v0_) ∧ Kd.R Kd.string 9 w' w.heap.size (fun _=>True) v0_ r ∧ Below w.heap.size w w':=by
 have HB:=Am (Below.refl w.heap.size w)
 have H:((strings_genSplit.f k a0 a1 0 (-1)).bind fun t445=>(some t445)) = some r:=h
 clear h
 replace H:=bI H
 obtain ⟨t445,A30,H⟩:=H
 replace H:(some t445) = some r:=H
 have A3:=Am A30
 clear A30
 obtain rfl:=Option.some.inj H
 go_enter Tryd.func68,Tryd.ntmps68
 go_wp2_with (first|((with_reducible refine gate_callee (f:=88) rfl ?_);refine goesL_ (some 7) rfl rfl Tryd.func88 (by kernel_rfl) rfl #[.string a0, .string a1, .int .i64 0, .int .i64 (-1)] rfl (by (try simp only [List.map_toArray,List.map_cons,List.map_nil]);first|done|rfl|(simp only [List.length_drop,List.length_take];rfl)) ?_;(with_reducible refine (strings_genSplit.calls k a0 a1 0 (-1) t445 _ A3.out).mono ?_);rintro e w4 ⟨v446,rfl,ho0,hb⟩;refine ⟨_,rfl,?_⟩;have n0_:=Am (Kd.R_lower ho0 (bU (by repeat (first|(with_reducible first|exact HB.out|apply bA|apply bN|apply bD)|exact HB.out))));have n1_:=Am (bT (by repeat (first|(with_reducible first|exact HB.out|apply bA|apply bN|apply bD)|exact HB.out)) hb);clear HB;have HO447:=n0_;have HB:=n1_;clear n0_ n1_;(try clear hb);(try clear ho0)))
 go_ret
 exact ⟨_,by first|rfl|(simp <;> rfl)|(simp [*] <;> rfl),by (with_reducible repeat (first|apply rA|apply rN|apply rD));exact HO447.out,by repeat (first|(with_reducible first|exact HB.out|apply bA|apply bN|apply bD)|exact HB.out)⟩

/-! ### impl_PathClean: function 69 -/
mutual
def impl_PathClean.l0:Nat → List ByteArray → List ByteArray → Int → Int → Option (List ByteArray)
 | 0,_,_,_,_=>none
 | k + 1,x3,x6,x7,x8=>if x8 < x7 then (if 0 ≤ x8 then (if x8 < (x6.length:Int) then (if (rdOf ByteArray.empty x6 x8).toList = ([]:List UInt8) then (impl_PathClean.j1 k x3 (rdOf ByteArray.empty x6 x8) x6 x7 x8 (rdOf ByteArray.empty x6 x8) ((rdOf ByteArray.empty x6 x8).toList == ([]:List UInt8))) else (impl_PathClean.j1 k x3 (rdOf ByteArray.empty x6 x8) x6 x7 x8 (rdOf ByteArray.empty x6 x8) ((rdOf ByteArray.empty x6 x8).toList == ([46]:List UInt8)))) else (none)) else (none)) else (some x3)
def impl_PathClean.j1:Nat → List ByteArray → ByteArray → List ByteArray → Int → Int → ByteArray → Bool → Option (List ByteArray)
 | 0,_,_,_,_,_,_,_=>none
 | k + 1,x3,x5,x6,x7,x8,x12,x13=>if x13 = true then (impl_PathClean.l0 k x3 x6 x7 (wrap64 (x8 + 1))) else (if x12.toList = ([46,46]:List UInt8) then (if (x3.length:Int) > 0 then (if 0 ≤ (wrap64 ((x3.length:Int) - 1)) then (if (wrap64 ((x3.length:Int) - 1)) ≤ (x3.length:Int) then (impl_PathClean.l0 k (x3.take ((wrap64 ((x3.length:Int) - 1)):Int).toNat) x6 x7 (wrap64 (x8 + 1))) else (none)) else (none)) else (impl_PathClean.l0 k x3 x6 x7 (wrap64 (x8 + 1)))) else (if x3.length < 8796093022208 then (impl_PathClean.l0 k (x3 ++ [x5]) x6 x7 (wrap64 (x8 + 1))) else (none)))
end
def impl_PathClean.f (k:Nat) (l0:List ByteArray):Option (List ByteArray):=impl_PathClean.l0 k ([]:List ByteArray) l0 (l0.length:Int) 0
theorem impl_PathClean.mono_l:∀ k,(∀ y0 y1 y2 y3,LeO (impl_PathClean.l0 k y0 y1 y2 y3) (impl_PathClean.l0 (k + 1) y0 y1 y2 y3)) ∧ (∀ y0 y1 y2 y3 y4 y5 y6,LeO (impl_PathClean.j1 k y0 y1 y2 y3 y4 y5 y6) (impl_PathClean.j1 (k + 1) y0 y1 y2 y3 y4 y5 y6))
 | 0=>⟨fun _ _ _ _ r h=>by simp [impl_PathClean.l0] at h,fun _ _ _ _ _ _ _ r h=>by simp [impl_PathClean.j1] at h⟩
 | k + 1=>by
  obtain ⟨ih0,ih1⟩:=impl_PathClean.mono_l k
  refine ⟨?_,?_⟩
  ·intro y0 y1 y2 y3
   unfold impl_PathClean.l0
   repeat' first
   | (with_reducible apply ih0)
   | (with_reducible apply ih1)
   | (with_reducible exact LeO.refl _)
   | (with_reducible exact LeO.none _)
   | (with_reducible refine LeO.ite ?_ ?_)
   | (with_reducible refine LeO.bind ?_ (fun _=>?_))





  ·intro y0 y1 y2 y3 y4 y5 y6
   unfold impl_PathClean.j1
   repeat' first
   | (with_reducible apply ih0)
   | (with_reducible apply ih1)
   | (with_reducible exact LeO.refl _)
   | (with_reducible exact LeO.none _)
   | (with_reducible refine LeO.ite ?_ ?_)
   | (with_reducible refine LeO.bind ?_ (fun _=>?_))





theorem impl_PathClean.mono:∀ a0 k,LeO (impl_PathClean.f k a0) (impl_PathClean.f (k + 1) a0):=by
 intro a0 k
 obtain ⟨ih0,ih1⟩:=impl_PathClean.mono_l k
 unfold impl_PathClean.f
 repeat' first
   | (with_reducible apply ih0)
   | (with_reducible apply ih1)
   | (with_reducible exact LeO.refl _)
   | (with_reducible exact LeO.none _)
   | (with_reducible refine LeO.ite ?_ ?_)
   | (with_reducible refine LeO.bind ?_ (fun _=>?_))





theorem impl_PathClean.calls (k:Nat) (A0:Option Addr) (c0:Nat) (l0:List ByteArray) (r:List ByteArray) (w:World) (hr0:Kd.C Kd.string w A0 l0.length l0) (hc0:l0.length ≤ c0) (h:impl_PathClean.f k l0 = some r) :
  Calls Tryd.prog 69 #[.slice A0 l0.length c0] w fun e w'=>∃ v0_:Value,e = .returned (v0_) ∧ Kd.R Kd.string 9 w' w.heap.size (fun _=>True) v0_ r ∧ Below w.heap.size w w':=by
 have HR0:=Am hr0
 have HC0:=Am hc0
 clear hr0 hc0
 have HB:=Am (Below.refl w.heap.size w)
 have H:(impl_PathClean.l0 k ([]:List ByteArray) l0 (l0.length:Int) 0) = some r:=h
 clear h
 have H':=Am H
 clear H
 go_enter Tryd.func69,Tryd.ntmps69
 go_wp2
 go_step3
 go_wp2
 go_step3
 go_wp2
 go_loopg [3,8] k (fun kq v3 v8 w'=>∃ (x3_1:List ByteArray) (x8_1:Int),v8 = .int .i64 x8_1 ∧ Aside0 (impl_PathClean.l0 kq x3_1 l0 (l0.length:Int) x8_1 = some r) ∧ Aside0 (kq ≤ k) ∧ Aside0 (Kd.R Kd.string 9 w' w.heap.size (fun _=>True) v3 x3_1) ∧ Aside0 (Below w.heap.size w w'))
 case atStart=>exact ⟨(([]:List ByteArray)),(0),(by first|rfl|(simp;done)|(simp only [i64_w,i32_w] <;> rfl)|(simp [*];done)|(simp [emp_bne,emp_beq];done)),H',⟨Nat.le_refl _⟩,⟨by first|exact Kd.R_nil _ _ _ _ _|exact Kd.N_nil _ _ _ _ _|exact Kd.V_nil _ _ _ _ _|exact Kd.Q_nil _ _ _ _ _|exact Kd.S_nil _ _ _ _ _⟩,⟨by repeat (first|(with_reducible first|exact HB.out|apply bA|apply bN|apply bD)|exact HB.out)⟩⟩
 case round =>
  clear H'
  obtain ⟨x3_1,x8_1,rfl,HA,HK1,HO_3,HB⟩:=hrel
  cases gk with
  | zero=>exact absurd HA.out (by simp [impl_PathClean.l0])
  | succ k1 =>
   have H:=HA.out
   clear HA
   simp only [impl_PathClean.l0] at H
   by_cases c2:x8_1 < (l0.length:Int)
   ·rw [if_pos c2] at H
    have c2b0:decide (x8_1 < (l0.length:Int)) = true:=decide_eq_true c2
    clear c2
    by_cases c3:0 ≤ x8_1
    ·rw [if_pos c3] at H
     have c3b0:decide (0 ≤ x8_1) = true:=decide_eq_true c3
     clear c3
     by_cases c4:x8_1 < (l0.length:Int)
     ·rw [if_pos c4] at H
      have c4b0:decide (x8_1 < (l0.length:Int)) = true:=decide_eq_true c4
      clear c4
      have HC5:=Am H
      clear H
      have p448:0 ≤ (x8_1:Int):=oD (by assumption)
      have q448:x8_1 < (l0.length:Int):=oD (by assumption)
      obtain ⟨ad448,e448,hx448_0⟩:=Kd.at_string HR0.out x8_1 p448 q448
      cases e448
      replace hx448_0:=(HB.out.cell (World.block_lt_of_cell? w _ hx448_0)).trans hx448_0
      replace p448:=eq_true p448
      replace q448:=eq_true q448
      go_upto_if 13 with (fail)
      go_cut [13] (fun v13 wc=>∃ (kq:Nat) (x13_4:Bool),v13 = .bool x13_4 ∧ Aside0 (impl_PathClean.j1 kq x3_1 (rdOf ByteArray.empty l0 x8_1) l0 (l0.length:Int) x8_1 (rdOf ByteArray.empty l0 x8_1) x13_4 = some r) ∧ Aside0 (kq ≤ k1) ∧ Aside0 (Kd.R Kd.string 9 wc w.heap.size (fun _=>True) u3 x3_1) ∧ Aside0 (Below w.heap.size w wc))
      case first =>
       have H:=HC5.out
       clear HC5
       by_cases c6:(rdOf ByteArray.empty l0 x8_1).toList = ([]:List UInt8)
       ·rw [if_pos c6] at H
        (try (have c6b0:(rdOf ByteArray.empty l0 x8_1).toList.isEmpty = true:=by simpa using c6))
        have c6b1:((rdOf ByteArray.empty l0 x8_1).toList == ([]:List UInt8)) = true:=beq_iff_eq.mpr c6
        have c6b2:((rdOf ByteArray.empty l0 x8_1).toList != ([]:List UInt8)) = false:=bne_eq_false_iff_eq.mpr c6
        clear c6
        (first|rw [c6b0]|(simp only [i64_w,i32_w];rw [c6b0])|skip)
        have H':=Am H
        clear H
        go_wp2
        go_meet
        case rel=>exact ⟨_,(((rdOf ByteArray.empty l0 x8_1).toList == ([]:List UInt8))),(by first|rfl|(simp;done)|(simp only [i64_w,i32_w] <;> rfl)|(simp [*];done)|(simp [emp_bne,emp_beq];done)),H',⟨by have:=HK1.out;first|omega|exact Nat.le_refl _⟩,⟨by (with_reducible repeat (first|apply rA|apply rN|apply rD));exact HO_3.out⟩,⟨by repeat (first|(with_reducible first|exact HB.out|apply bA|apply bN|apply bD)|exact HB.out)⟩⟩
       ·rw [if_neg c6] at H
        (try (have c6b0:(rdOf ByteArray.empty l0 x8_1).toList.isEmpty = false:=by simpa using c6))
        have c6b1:((rdOf ByteArray.empty l0 x8_1).toList == ([]:List UInt8)) = false:=beq_eq_false_iff_ne.mpr c6
        have c6b2:((rdOf ByteArray.empty l0 x8_1).toList != ([]:List UInt8)) = true:=bne_iff_ne.mpr c6
        (first|rw [c6b0]|(simp only [i64_w,i32_w];rw [c6b0])|skip)
        have H':=Am H
        clear H
        go_wp2
        go_meet
        case rel=>exact ⟨_,(((rdOf ByteArray.empty l0 x8_1).toList == ([46]:List UInt8))),(by first|rfl|(simp;done)|(simp only [i64_w,i32_w] <;> rfl)|(simp [*];done)|(simp [emp_bne,emp_beq];done)),H',⟨by have:=HK1.out;first|omega|exact Nat.le_refl _⟩,⟨by (with_reducible repeat (first|apply rA|apply rN|apply rD));exact HO_3.out⟩,⟨by repeat (first|(with_reducible first|exact HB.out|apply bA|apply bN|apply bD)|exact HB.out)⟩⟩
      case rest =>
       clear HC5
       try clear c2
       try clear c2b0
       try clear p2
       try clear c3
       try clear c3b0
       try clear c4
       try clear c4b0
       try clear p4
       try clear q4
       try clear hx4
       try clear c6
       try clear c6b0
       try clear c6b1
       try clear c6b2
       try clear hx448_0
       try clear p448
       try clear q448
       obtain ⟨kq,x13_4,rfl,HA,HJ4,HO_3,HB⟩:=hcut
       cases kq with
       | zero=>exact absurd HA.out (by simp [impl_PathClean.j1])
       | succ kj4 =>
        have H:=HA.out
        clear HA
        simp only [impl_PathClean.j1] at H
        by_cases c7:x13_4 = true
        ·subst c7
         have H1:(impl_PathClean.l0 kj4 x3_1 l0 (l0.length:Int) (wrap64 (x8_1 + 1))) = some r:=by rw [if_pos rfl] at H;exact H
         clear H
         have H:=H1
         clear H1
         have H':=Am H
         clear H
         go_wp2
         go_roundg kj4
         case measure=>have:=HK1.out;have:=HJ4.out;omega
         case rel=>exact ⟨(x3_1),(wrap64 (x8_1 + 1)),(by first|rfl|(simp;done)|(simp only [i64_w,i32_w] <;> rfl)|(simp [*];done)|(simp [emp_bne,emp_beq];done)),H',⟨by have:=HK1.out;have:=HJ4.out;omega⟩,⟨by (with_reducible repeat (first|apply rA|apply rN|apply rD));exact HO_3.out⟩,⟨by repeat (first|(with_reducible first|exact HB.out|apply bA|apply bN|apply bD)|exact HB.out)⟩⟩
        ·replace c7:=Bool.eq_false_iff.mpr c7
         subst c7
         have H1:(if (rdOf ByteArray.empty l0 x8_1).toList = ([46,46]:List UInt8) then (if (x3_1.length:Int) > 0 then (if 0 ≤ (wrap64 ((x3_1.length:Int) - 1)) then (if (wrap64 ((x3_1.length:Int) - 1)) ≤ (x3_1.length:Int) then (impl_PathClean.l0 kj4 (x3_1.take ((wrap64 ((x3_1.length:Int) - 1)):Int).toNat) l0 (l0.length:Int) (wrap64 (x8_1 + 1))) else (none)) else (none)) else (impl_PathClean.l0 kj4 x3_1 l0 (l0.length:Int) (wrap64 (x8_1 + 1)))) else (if x3_1.length < 8796093022208 then (impl_PathClean.l0 kj4 (x3_1 ++ [(rdOf ByteArray.empty l0 x8_1)]) l0 (l0.length:Int) (wrap64 (x8_1 + 1))) else (none))) = some r:=by rw [if_neg (show ¬ (false = true) by decide)] at H;exact H
         clear H
         have H:=H1
         clear H1
         by_cases c8:(rdOf ByteArray.empty l0 x8_1).toList = ([46,46]:List UInt8)
         ·rw [if_pos c8] at H
          have c8b0:((rdOf ByteArray.empty l0 x8_1).toList == ([46,46]:List UInt8)) = true:=beq_iff_eq.mpr c8
          have c8b1:((rdOf ByteArray.empty l0 x8_1).toList != ([46,46]:List UInt8)) = false:=bne_eq_false_iff_eq.mpr c8
          clear c8
          by_cases c9:(x3_1.length:Int) > 0
          ·rw [if_pos c9] at H
           have c9b0:decide (0 < (x3_1.length:Int)) = true:=decide_eq_true c9
           have c9b1:decide (0 < x3_1.length) = true:=decide_eq_true (by omega)
           clear c9
           obtain ⟨ji10,hji10⟩:∃ j_:Int,(wrap64 ((x3_1.length:Int) - 1)) = j_:=⟨_,rfl⟩
           replace H:(if 0 ≤ (ji10) then (if (ji10) ≤ (x3_1.length:Int) then (impl_PathClean.l0 kj4 (x3_1.take ((ji10):Int).toNat) l0 (l0.length:Int) (wrap64 (x8_1 + 1))) else (none)) else (none)) = some r:=by first|(rw [hji10] at H;exact H)|(simp only [hji10] at H ⊢;exact H)
           have hji10w:(IntKind.i64.wrap ((x3_1.length:Int) - 1)) = ji10:=(i64_w _).trans hji10
           by_cases c11:0 ≤ (ji10)
           ·rw [if_pos c11] at H
            have c11b0:=eq_true c11
            have c11b1:=decide_eq_true c11
            clear c11
            by_cases c12:(ji10) ≤ (x3_1.length:Int)
            ·rw [if_pos c12] at H
             have c12b0:=eq_true c12
             have c12b1:=decide_eq_true c12
             clear c12
             obtain ⟨y449,hy449⟩:∃ y_:List ByteArray,y_ = (x3_1.take ((ji10):Int).toNat):=⟨_,rfl⟩
             replace H:(impl_PathClean.l0 kj4 y449 l0 (l0.length:Int) (wrap64 (x8_1 + 1))) = some r:=by first|(rw [hy449];with_reducible exact H)|(have H2_:=(Option.bind_some _ _).symm.trans H;rw [hy449];with_reducible exact H2_)|(have H2_:=(Option.bind_some _ _).symm.trans H;with_reducible exact H2_)|with_reducible exact H|(rw [hy449];exact H)|exact H
             have Ny449:=Am hy449
             clear hy449
             have H':=Am H
             clear H
             obtain ⟨Ao13,co13,eo13⟩:=Kd.R_slice HO_3.out
             subst eo13
             have q14:((ji10):Int) ≤ ((x3_1.length:Int):Int):=oD (by assumption)
             obtain ⟨i014,hi014,_,hsz14,_⟩:=info_parts info9
             have hcut14:=cut_to (P:=Tryd.prog) 23 9 .i64 Tryd.underlying23 hi014 Ao13 x3_1.length co13 (ji10) (oD (by assumption)) q14 (Kd.R_reads' HO_3.out).2.1
             have hr14:=Kd.R_take (m:=((ji10):Int).toNat) HO_3.out (by omega)
             have hy14:y449.length = ((ji10):Int).toNat:=(by rw [Ny449.out,List.length_take];omega)
             rw [← Ny449.out] at hr14
             rw [← hy14] at hr14 hcut14
             clear hy14 hi014 hsz14 HO_3
             have HO451:=Am hr14
             clear hr14
             replace q14:=eq_true q14
             go_wp2
             go_roundg kj4
             case measure=>have:=HK1.out;have:=HJ4.out;omega
             case rel=>exact ⟨(y449),(wrap64 (x8_1 + 1)),(by first|rfl|(simp;done)|(simp only [i64_w,i32_w] <;> rfl)|(simp [*];done)|(simp [emp_bne,emp_beq];done)),H',⟨by have:=HK1.out;have:=HJ4.out;omega⟩,⟨by (with_reducible repeat (first|apply rA|apply rN|apply rD));exact HO451.out⟩,⟨by repeat (first|(with_reducible first|exact HB.out|apply bA|apply bN|apply bD)|exact HB.out)⟩⟩
            ·rw [if_neg c12] at H
             exact absurd H (by simp)
           ·rw [if_neg c11] at H
            exact absurd H (by simp)
          ·rw [if_neg c9] at H
           have c9b0:decide (0 < (x3_1.length:Int)) = false:=decide_eq_false c9
           have c9b1:decide (0 < x3_1.length) = false:=decide_eq_false (by omega)
           clear c9
           have H':=Am H
           clear H
           obtain ⟨Ao15,co15,eo15⟩:=Kd.R_slice HO_3.out
           subst eo15
           go_wp2
           go_roundg kj4
           case measure=>have:=HK1.out;have:=HJ4.out;omega
           case rel=>exact ⟨(x3_1),(wrap64 (x8_1 + 1)),(by first|rfl|(simp;done)|(simp only [i64_w,i32_w] <;> rfl)|(simp [*];done)|(simp [emp_bne,emp_beq];done)),H',⟨by have:=HK1.out;have:=HJ4.out;omega⟩,⟨by (with_reducible repeat (first|apply rA|apply rN|apply rD));exact HO_3.out⟩,⟨by repeat (first|(with_reducible first|exact HB.out|apply bA|apply bN|apply bD)|exact HB.out)⟩⟩
         ·rw [if_neg c8] at H
          have c8b0:((rdOf ByteArray.empty l0 x8_1).toList == ([46,46]:List UInt8)) = false:=beq_eq_false_iff_ne.mpr c8
          have c8b1:((rdOf ByteArray.empty l0 x8_1).toList != ([46,46]:List UInt8)) = true:=bne_iff_ne.mpr c8
          by_cases c16:x3_1.length < 8796093022208
          ·rw [if_pos c16] at H
           have LMc16:=Am c16
           clear c16
           obtain ⟨y452,hy452⟩:∃ y_:List ByteArray,y_ = (x3_1 ++ [(rdOf ByteArray.empty l0 x8_1)]):=⟨_,rfl⟩
           replace H:(impl_PathClean.l0 kj4 y452 l0 (l0.length:Int) (wrap64 (x8_1 + 1))) = some r:=by first|(rw [hy452];with_reducible exact H)|(have H2_:=(Option.bind_some _ _).symm.trans H;rw [hy452];with_reducible exact H2_)|(have H2_:=(Option.bind_some _ _).symm.trans H;with_reducible exact H2_)|with_reducible exact H|(rw [hy452];exact H)|exact H
           have Ny452:=Am hy452
           clear hy452
           have H':=Am H
           clear H
           go_wp2_with (first|((with_reducible refine gate_builtin (b:=.append) (xs:=#[.tmp 26, .tmp 28]) rfl ?_);at_builtin;refine Kd.R_append Kd.string (w0:=w) w.heap.size rfl (.tmp 26) (.tmp 28) 23 9 (.string ⟨#[]⟩) 16 rfl Tryd.underlying23 info9 rfl (by decide) (by omega) u3 x3_1 (rdOf ByteArray.empty l0 x8_1) [.string (rdOf ByteArray.empty l0 x8_1)] (fun _=>True) (fun _=>False) rfl rfl ?aP (fun _ hk=>hk.elim) ?aF ?aO ?aB ?aS ?aL ?_;(case aP=>exact rfl);(case aB=>exact (by repeat (first|(with_reducible first|exact HB.out|apply bA|apply bN|apply bD)|exact HB.out)));(case aF=>exact (fun _ _=>trivial));(case aO=>exact (bR HO_3.out));(case aS=>exact (bU (by repeat (first|(with_reducible first|exact HB.out|apply bA|apply bN|apply bD)|exact HB.out))));(case aL=>have:=LMc16.out;omega);intro v453 w17 ho hb hg hat;rw [← Ny452.out] at ho;have n0_:=Am (hb);have n1_:=Am (ho);clear HB HO_3;have HB:=n0_;have HO454:=n1_;clear n0_ n1_ ho hb hg hat))
           go_roundg kj4
           case measure=>have:=HK1.out;have:=HJ4.out;omega
           case rel=>exact ⟨(y452),(wrap64 (x8_1 + 1)),(by first|rfl|(simp;done)|(simp only [i64_w,i32_w] <;> rfl)|(simp [*];done)|(simp [emp_bne,emp_beq];done)),H',⟨by have:=HK1.out;have:=HJ4.out;omega⟩,⟨by (with_reducible repeat (first|apply rA|apply rN|apply rD));exact HO454.out⟩,⟨by repeat (first|(with_reducible first|exact HB.out|apply bA|apply bN|apply bD)|exact HB.out)⟩⟩
          ·rw [if_neg c16] at H
           exact absurd H (by simp)
     ·rw [if_neg c4] at H
      exact absurd H (by simp)
    ·rw [if_neg c3] at H
     exact absurd H (by simp)
   ·rw [if_neg c2] at H
    have c2b0:decide (x8_1 < (l0.length:Int)) = false:=decide_eq_false c2
    clear c2
    obtain rfl:=Option.some.inj H
    go_wp2
    (try rw [Exit.noGoto_ret])
    go_ret
    exact ⟨_,by first|rfl|(simp <;> rfl)|(simp [*] <;> rfl),by (with_reducible repeat (first|apply rA|apply rN|apply rD));exact HO_3.out,by repeat (first|(with_reducible first|exact HB.out|apply bA|apply bN|apply bD)|exact HB.out)⟩

/-! ### impl_readWay: function 40 -/
def impl_readWay.l0:Nat → ByteArray → ByteArray → Bool → List ByteArray → List ByteArray → Int → Int → Option (ByteArray × List ByteArray × Bool × ByteArray × Bool)
 | 0,_,_,_,_,_,_,_=>none
 | k + 1,x0,x9,x10,x12,x35,x36,x37=>if x37 < x36 then (if 0 ≤ x37 then (if x37 < (x35.length:Int) then ((impl_EscNorm.f k (rdOf ByteArray.empty x35 x37)).bind fun bt468=>(if bt468.2 = true then (if x12.length < 8796093022208 then (impl_readWay.l0 k x0 x9 x10 (x12 ++ [bt468.1]) x35 x36 (wrap64 (x37 + 1))) else (none)) else (some ((⟨#[]⟩:ByteArray),([]:List ByteArray),false,(⟨#[]⟩:ByteArray),false)))) else (none)) else (none)) else ((impl_PathClean.f k x12).bind fun t473=>((impl_AddrOk.f k x0 t473 x10 x9).bind fun t477=>(if t477 = true then (some (x0,t473,x10,x9,true)) else (some ((⟨#[]⟩:ByteArray),([]:List ByteArray),false,(⟨#[]⟩:ByteArray),false)))))
def impl_readWay.f (k:Nat) (a0:ByteArray) (l1:List ByteArray) (a2:ByteArray):Option (ByteArray × List ByteArray × Bool × ByteArray × Bool):=(strings_Cut.f a2 (⟨#[63]⟩:ByteArray)).bind fun bt456=>((impl_EscNorm.f k bt456.2.1).bind fun bt459=>(if bt459.2 = true then ((slices_Clone_string_string.f l1).bind fun t461=>((strings_Split.f k bt456.1 (⟨#[47]⟩:ByteArray)).bind fun t464=>(impl_readWay.l0 k a0 bt459.1 bt456.2.2 t461 t464 (t464.length:Int) 0))) else (some ((⟨#[]⟩:ByteArray),([]:List ByteArray),false,(⟨#[]⟩:ByteArray),false))))
theorem impl_readWay.mono_l:∀ k,(∀ y0 y1 y2 y3 y4 y5 y6,LeO (impl_readWay.l0 k y0 y1 y2 y3 y4 y5 y6) (impl_readWay.l0 (k + 1) y0 y1 y2 y3 y4 y5 y6))
 | 0=>fun _ _ _ _ _ _ _ r h=>by simp [impl_readWay.l0] at h
 | k + 1=>by
  have ih0:=impl_readWay.mono_l k
  ·intro y0 y1 y2 y3 y4 y5 y6
   unfold impl_readWay.l0
   repeat' first
   | (with_reducible apply ih0)
   | (with_reducible apply impl_AddrOk.mono)
   | (with_reducible apply impl_EscNorm.mono)
   | (with_reducible apply impl_PathClean.mono)
   | (with_reducible apply strings_Split.mono)
   | (with_reducible exact LeO.refl _)
   | (with_reducible exact LeO.none _)
   | (with_reducible refine LeO.ite ?_ ?_)
   | (with_reducible refine LeO.bind ?_ (fun _=>?_))








theorem impl_readWay.mono:∀ a0 a1 a2 k,LeO (impl_readWay.f k a0 a1 a2) (impl_readWay.f (k + 1) a0 a1 a2):=by
 intro a0 a1 a2 k
 have ih0:=impl_readWay.mono_l k
 unfold impl_readWay.f
 repeat' first
   | (with_reducible apply ih0)
   | (with_reducible apply impl_AddrOk.mono)
   | (with_reducible apply impl_EscNorm.mono)
   | (with_reducible apply impl_PathClean.mono)
   | (with_reducible apply strings_Split.mono)
   | (with_reducible exact LeO.refl _)
   | (with_reducible exact LeO.none _)
   | (with_reducible refine LeO.ite ?_ ?_)
   | (with_reducible refine LeO.bind ?_ (fun _=>?_))








theorem impl_readWay.calls (k:Nat) (a0:ByteArray) (A1:Option Addr) (c1:Nat) (l1:List ByteArray) (a2:ByteArray) (r1:ByteArray) (r2:List ByteArray) (r3:Bool) (r4:ByteArray) (r5:Bool) (w:World) (hr1:Kd.C Kd.string w A1 l1.length l1) (hc1:l1.length ≤ c1) (h:impl_readWay.f k a0 l1 a2 = some (r1,r2,r3,r4,r5)) :
  Calls Tryd.prog 40 #[.string a0, .slice A1 l1.length c1, .string a2] w fun e w'=>∃ v1_:Value,e = .returned (.tuple #[.agg #[.string r1,v1_, .bool r3, .string r4], .bool r5]) ∧ Kd.R Kd.string 9 w' w.heap.size (fun _=>True) v1_ r2 ∧ Below w.heap.size w w':=by
 have hu25:=Tryd.underlying25
 have HR1:=Am hr1
 have HC1:=Am hc1
 clear hr1 hc1
 have HB:=Am (Below.refl w.heap.size w)
 have H:((strings_Cut.f a2 (⟨#[63]⟩:ByteArray)).bind fun bt456=>((impl_EscNorm.f k bt456.2.1).bind fun bt459=>(if bt459.2 = true then ((slices_Clone_string_string.f l1).bind fun t461=>((strings_Split.f k bt456.1 (⟨#[47]⟩:ByteArray)).bind fun t464=>(impl_readWay.l0 k a0 bt459.1 bt456.2.2 t461 t464 (t464.length:Int) 0))) else (some ((⟨#[]⟩:ByteArray),([]:List ByteArray),false,(⟨#[]⟩:ByteArray),false))))) = some (r1,r2,r3,r4,r5):=h
 clear h
 replace H:=bI H
 obtain ⟨⟨t456,t457,t458⟩,A40,H⟩:=H
 replace H:((impl_EscNorm.f k t457).bind fun bt459=>(if bt459.2 = true then ((slices_Clone_string_string.f l1).bind fun t461=>((strings_Split.f k t456 (⟨#[47]⟩:ByteArray)).bind fun t464=>(impl_readWay.l0 k a0 bt459.1 t458 t461 t464 (t464.length:Int) 0))) else (some ((⟨#[]⟩:ByteArray),([]:List ByteArray),false,(⟨#[]⟩:ByteArray),false)))) = some (r1,r2,r3,r4,r5):=H
 have A4:=Am A40
 clear A40
 replace H:=bI H
 obtain ⟨⟨t459,t460⟩,A50,H⟩:=H
 replace H:(if t460 = true then ((slices_Clone_string_string.f l1).bind fun t461=>((strings_Split.f k t456 (⟨#[47]⟩:ByteArray)).bind fun t464=>(impl_readWay.l0 k a0 t459 t458 t461 t464 (t464.length:Int) 0))) else (some ((⟨#[]⟩:ByteArray),([]:List ByteArray),false,(⟨#[]⟩:ByteArray),false))) = some (r1,r2,r3,r4,r5):=H
 have A5:=Am A50
 clear A50
 by_cases c6:t460 = true
 ·subst c6
  have H1:((slices_Clone_string_string.f l1).bind fun t461=>((strings_Split.f k t456 (⟨#[47]⟩:ByteArray)).bind fun t464=>(impl_readWay.l0 k a0 t459 t458 t461 t464 (t464.length:Int) 0))) = some (r1,r2,r3,r4,r5):=by rw [if_pos rfl] at H;exact H
  clear H
  have H:=H1
  clear H1
  replace H:=bI H
  obtain ⟨t461,A70,H⟩:=H
  replace H:((strings_Split.f k t456 (⟨#[47]⟩:ByteArray)).bind fun t464=>(impl_readWay.l0 k a0 t459 t458 t461 t464 (t464.length:Int) 0)) = some (r1,r2,r3,r4,r5):=H
  have A7:=Am A70
  clear A70
  replace H:=bI H
  obtain ⟨t464,A80,H⟩:=H
  replace H:(impl_readWay.l0 k a0 t459 t458 t461 t464 (t464.length:Int) 0) = some (r1,r2,r3,r4,r5):=H
  have A8:=Am A80
  clear A80
  have H':=Am H
  clear H
  go_enter Tryd.func40,Tryd.ntmps40
  go_wp2_with (first|((with_reducible refine gate_dst (N:=6) rfl ?_);refine box_event ?hg (N:=6) ?hd (cs:=#[.string (⟨#[]⟩:ByteArray), .slice none 0 0, .bool false, .string (⟨#[]⟩:ByteArray)]) (t:=25) ?hr ?_;(case hd=>rfl);(case hg=>rfl);(case hr=>(go_simp <;> rfl));intro gb455 hg w9 hbox hb;have n0_:=Am (bT (by repeat (first|(with_reducible first|exact HB.out|apply bA|apply bN|apply bD)|exact HB.out)) hb);have n1_:=Am (hbox);have n2_:=Am ((by rw [hg];exact (bU (by repeat (first|(with_reducible first|exact HB.out|apply bA|apply bN|apply bD)|exact HB.out))):w.heap.size ≤ gb455));have n3_:=n2_;clear HB;have HB:=n0_;have BK455:=n1_;have GW455:=n2_;have GE455:=n3_;clear n0_ n1_ n2_ n3_ hb hbox hg)|((with_reducible refine gate_callee (f:=36) rfl ?_);refine goesL_ (some 20) rfl rfl Tryd.func36 (by kernel_rfl) rfl #[.string a2, .string (⟨#[63]⟩:ByteArray)] rfl (aE2 rfl rfl) ?_;(with_reducible refine (strings_Cut.calls a2 (⟨#[63]⟩:ByteArray) t456 t457 t458 _ A4.out).mono ?_);rintro e w' ⟨rfl,⟨nd,rfl⟩⟩;refine ⟨_,rfl,?_⟩)|((with_reducible refine gate_callee (f:=67) rfl ?_);refine goesL_ (some 26) rfl rfl Tryd.func67 (by kernel_rfl) rfl #[.string t457] rfl (aE1 rfl) ?_;(with_reducible refine (impl_EscNorm.calls k t457 t459 true _ A5.out).mono ?_);rintro e w10 ⟨rfl,hb⟩;refine ⟨_,rfl,?_⟩;have n0_:=Am (blk_below (bB BK455.out) hb);have n1_:=Am (bT (by repeat (first|(with_reducible first|exact HB.out|apply bA|apply bN|apply bD|refine bS ?_ GE455.out)|exact HB.out)) hb);clear BK455 HB;have BK455:=n0_;have HB:=n1_;clear n0_ n1_;(try clear hb))|((with_reducible refine gate_callee (f:=39) rfl ?_);refine goesL_ (some 33) rfl rfl Tryd.func39 (by kernel_rfl) rfl #[.slice A1 l1.length c1] rfl (aE1 rfl) ?_;(with_reducible refine (slices_Clone_string_string.calls _ _ l1 t461 _ ?side1 ?side2 A7.out).mono ?_);(case side1=>repeat (first|exact (Kd.C_below HR1.out HB.out)|(with_reducible refine bC ?_)));(case side2=>exact HC1.out);rintro e w11 ⟨v462,rfl,ho0,hb⟩;refine ⟨_,rfl,?_⟩;have n0_:=Am (Kd.R_lower ho0 (bU (by repeat (first|(with_reducible first|exact HB.out|apply bA|apply bN|apply bD|refine bS ?_ GE455.out)|exact HB.out))));have n1_:=Am (blk_below (bB BK455.out) hb);have n2_:=Am (bT (by repeat (first|(with_reducible first|exact HB.out|apply bA|apply bN|apply bD|refine bS ?_ GE455.out)|exact HB.out)) hb);clear BK455 HB;have HO463:=n0_;have BK455:=n1_;have HB:=n2_;clear n0_ n1_ n2_;(try clear hb);(try clear ho0))|((with_reducible refine gate_callee (f:=68) rfl ?_);refine goesL_ (some 35) rfl rfl Tryd.func68 (by kernel_rfl) rfl #[.string t456, .string (⟨#[47]⟩:ByteArray)] rfl (aE2 rfl rfl) ?_;(with_reducible refine (strings_Split.calls k t456 (⟨#[47]⟩:ByteArray) t464 _ A8.out).mono ?_);rintro e w12 ⟨v465,rfl,ho0,hb⟩;refine ⟨_,rfl,?_⟩;have n0_:=Am (Kd.R_elder' (bR HO463.out) (Kd.R_base ho0) hb);have n1_:=Am (Kd.R_lower (Kd.R_new' ho0 (Kd.R_lt (bR HO463.out))) (bU (by repeat (first|(with_reducible first|exact HB.out|apply bA|apply bN|apply bD|refine bS ?_ GE455.out)|exact HB.out))));have n2_:=Am (blk_below (bB BK455.out) hb);have n3_:=Am (bT (by repeat (first|(with_reducible first|exact HB.out|apply bA|apply bN|apply bD|refine bS ?_ GE455.out)|exact HB.out)) hb);clear HO463 BK455 HB;have HO463:=n0_;have HO466:=n1_;have BK455:=n2_;have HB:=n3_;clear n0_ n1_ n2_ n3_;(try clear hb);(try clear ho0);obtain ⟨Ao13,co13,eo13⟩:=Kd.R_slice HO466.out;subst eo13))
  go_loopg [12,37] k (fun kq v12 v37 w'=>∃ (x12_1:List ByteArray) (x37_1:Int) (x456000_1:ByteArray) (x456002_1:Bool) (x456003_1:ByteArray),v37 = .int .i64 x37_1 ∧ Aside0 (impl_readWay.l0 kq a0 t459 t458 x12_1 t464 (t464.length:Int) x37_1 = some (r1,r2,r3,r4,r5)) ∧ Aside0 (kq ≤ k) ∧ Aside0 (Kd.R Kd.string 9 w' w.heap.size (fun k_=>some k_ ≠ ((.slice Ao13 t464.length co13):Value).ownBlock) v12 x12_1) ∧ Aside0 (Kd.R Kd.string 9 w' w.heap.size (fun k_=>some k_ ≠ (v12:Value).ownBlock) (.slice Ao13 t464.length co13) t464) ∧ Aside0 (w'.heap[gb455]? = some (.cells #[.string x456000_1,(.slice none 0 0), .bool x456002_1, .string x456003_1] 25 (0,0))) ∧ Aside0 (Below w.heap.size w w'))
  case atStart=>exact ⟨(t461),(0),((⟨#[]⟩:ByteArray)),(false),((⟨#[]⟩:ByteArray)),(by first|rfl|(simp;done)|(simp only [i64_w,i32_w] <;> rfl)|(simp [*];done)|(simp [emp_bne,emp_beq];done)),H',⟨Nat.le_refl _⟩,⟨by (with_reducible repeat (first|apply rA|apply rN|apply rD));exact Kd.R_mono HO463.out (fun _ hk=>hk.2)⟩,⟨by (with_reducible repeat (first|apply rA|apply rN|apply rD));exact Kd.R_mono HO466.out (fun _ hk=>hk.2)⟩,⟨by refine bB ?_;exact BK455.out⟩,⟨by repeat (first|(with_reducible first|exact HB.out|apply bA|apply bN|apply bD|refine bS ?_ GE455.out)|exact HB.out)⟩⟩
  case round =>
   clear H'
   try clear c1
   try clear p2
   try clear c3
   try clear c4
   try clear c6
   obtain ⟨x12_1,x37_1,x456000_1,x456002_1,x456003_1,rfl,HA,HK1,HO_12,HO_35,BK455,HB⟩:=hrel
   cases gk with
   | zero=>exact absurd HA.out (by simp [impl_readWay.l0])
   | succ k1 =>
    have H:=HA.out
    clear HA
    simp only [impl_readWay.l0] at H
    by_cases c14:x37_1 < (t464.length:Int)
    ·rw [if_pos c14] at H
     have c14b0:decide (x37_1 < (t464.length:Int)) = true:=decide_eq_true c14
     clear c14
     by_cases c15:0 ≤ x37_1
     ·rw [if_pos c15] at H
      have c15b0:decide (0 ≤ x37_1) = true:=decide_eq_true c15
      clear c15
      by_cases c16:x37_1 < (t464.length:Int)
      ·rw [if_pos c16] at H
       have c16b0:decide (x37_1 < (t464.length:Int)) = true:=decide_eq_true c16
       clear c16
       replace H:=bI H
       obtain ⟨⟨t468,t469⟩,A170,H⟩:=H
       replace H:(if t469 = true then (if x12_1.length < 8796093022208 then (impl_readWay.l0 k1 a0 t459 t458 (x12_1 ++ [t468]) t464 (t464.length:Int) (wrap64 (x37_1 + 1))) else (none)) else (some ((⟨#[]⟩:ByteArray),([]:List ByteArray),false,(⟨#[]⟩:ByteArray),false))) = some (r1,r2,r3,r4,r5):=H
       have A17:=Am A170
       clear A170
       by_cases c18:t469 = true
       ·subst c18
        have H1:(if x12_1.length < 8796093022208 then (impl_readWay.l0 k1 a0 t459 t458 (x12_1 ++ [t468]) t464 (t464.length:Int) (wrap64 (x37_1 + 1))) else (none)) = some (r1,r2,r3,r4,r5):=by rw [if_pos rfl] at H;exact H
        clear H
        have H:=H1
        clear H1
        by_cases c19:x12_1.length < 8796093022208
        ·rw [if_pos c19] at H
         have LMc19:=Am c19
         clear c19
         obtain ⟨y470,hy470⟩:∃ y_:List ByteArray,y_ = (x12_1 ++ [t468]):=⟨_,rfl⟩
         replace H:(impl_readWay.l0 k1 a0 t459 t458 y470 t464 (t464.length:Int) (wrap64 (x37_1 + 1))) = some (r1,r2,r3,r4,r5):=by first|(rw [hy470];with_reducible exact H)|(have H2_:=(Option.bind_some _ _).symm.trans H;rw [hy470];with_reducible exact H2_)|(have H2_:=(Option.bind_some _ _).symm.trans H;with_reducible exact H2_)|with_reducible exact H|(rw [hy470];exact H)|exact H
         have Ny470:=Am hy470
         clear hy470
         have H':=Am H
         clear H
         have p467:0 ≤ (x37_1:Int):=oD (by assumption)
         have q467:x37_1 < (t464.length:Int):=oD (by assumption)
         obtain ⟨ad467,e467,hx467_0⟩:=Kd.at_string (Kd.R_reads' HO_35.out).2.2 x37_1 p467 q467
         cases e467
         replace p467:=eq_true p467
         replace q467:=eq_true q467
         go_wp2_with (first|((with_reducible refine gate_callee (f:=67) rfl ?_);refine goesL_ (some 43) rfl rfl Tryd.func67 (by kernel_rfl) rfl #[.string (rdOf ByteArray.empty t464 x37_1)] rfl (aE1 rfl) ?_;(with_reducible refine (impl_EscNorm.calls k1 (rdOf ByteArray.empty t464 x37_1) t468 true _ A17.out).mono ?_);rintro e w20 ⟨rfl,hb⟩;refine ⟨_,rfl,?_⟩;have n0_:=bH HO_12 hb;have n1_:=bH HO_35 hb;have n2_:=Am (blk_below (bB BK455.out) hb);have n3_:=Am (bT (by repeat (first|(with_reducible first|exact HB.out|apply bA|apply bN|apply bD|refine bS ?_ GE455.out)|exact HB.out)) hb);clear HO_12 HO_35 BK455 HB;have HO_12:=n0_;have HO_35:=n1_;have BK455:=n2_;have HB:=n3_;clear n0_ n1_ n2_ n3_;(try clear hb))|((with_reducible refine gate_builtin (b:=.append) (xs:=#[.tmp 49, .tmp 51]) rfl ?_);at_builtin;refine Kd.R_append Kd.string (w0:=w) w.heap.size rfl (.tmp 49) (.tmp 51) 23 9 (.string ⟨#[]⟩) 16 rfl Tryd.underlying23 info9 rfl (by decide) (by omega) u12 x12_1 t468 [.string t468] (fun k_=>some k_ ≠ (.slice (some ad467) t464.length co13:Value).ownBlock) (fun _=>False) rfl rfl ?aP (fun _ hk=>hk.elim) ?aF ?aO ?aB ?aS ?aL ?_;(case aP=>exact rfl);(case aB=>exact (by repeat (first|(with_reducible first|exact HB.out|apply bA|apply bN|apply bD|refine bS ?_ GE455.out)|exact HB.out)));(case aF=>exact (fun k_ hk=>Kd.fresh' (Kd.R_lt (bR HO_35.out)) k_ hk));(case aO=>exact (bR HO_12.out));(case aS=>exact (bU (by repeat (first|(with_reducible first|exact HB.out|apply bA|apply bN|apply bD|refine bS ?_ GE455.out)|exact HB.out))));(case aL=>have:=LMc19.out;omega);intro v471 w21 ho hb hg hat;rw [← Ny470.out] at ho;have n0_:=Am (Kd.R_after (ok:=(fun _=>True)) (by (with_reducible repeat (first|apply rA|apply rN|apply rD));exact Kd.R_mono HO_35.out (fun _ hk=>⟨trivial,hk⟩)) hg hat);have n1_:=Am (blk_grown (bB BK455.out) hg (Kd.R_ne HO_12.out BK455.out (by decide)));have n2_:=Am (hb);have n3_:=Am (ho);clear HO_35 BK455 HB HO_12;have HO_35:=n0_;have BK455:=n1_;have HB:=n2_;have HO472:=n3_;clear n0_ n1_ n2_ n3_ ho hb hg hat))
         go_roundg k1
         case measure=>have:=HK1.out;omega
         case rel=>exact ⟨(y470),(wrap64 (x37_1 + 1)),(x456000_1),(x456002_1),(x456003_1),(by first|rfl|(simp;done)|(simp only [i64_w,i32_w] <;> rfl)|(simp [*];done)|(simp [emp_bne,emp_beq];done)),H',⟨by have:=HK1.out;omega⟩,⟨by (with_reducible repeat (first|apply rA|apply rN|apply rD));exact HO472.out⟩,⟨by (with_reducible repeat (first|apply rA|apply rN|apply rD));exact Kd.R_mono HO_35.out (fun _ hk=>hk.2)⟩,⟨by refine bB ?_;exact BK455.out⟩,⟨by repeat (first|(with_reducible first|exact HB.out|apply bA|apply bN|apply bD|refine bS ?_ GE455.out)|exact HB.out)⟩⟩
        ·rw [if_neg c19] at H
         exact absurd H (by simp)
       ·replace c18:=Bool.eq_false_iff.mpr c18
        subst c18
        have H1:(some ((⟨#[]⟩:ByteArray),([]:List ByteArray),false,(⟨#[]⟩:ByteArray),false)) = some (r1,r2,r3,r4,r5):=by rw [if_neg (show ¬ (false = true) by decide)] at H;exact H
        clear H
        have H:=H1
        clear H1
        simp only [Option.some.injEq,Prod.mk.injEq] at H
        obtain ⟨rfl,rfl,rfl,rfl,rfl⟩:=H
        have p467:0 ≤ (x37_1:Int):=oD (by assumption)
        have q467:x37_1 < (t464.length:Int):=oD (by assumption)
        obtain ⟨ad467,e467,hx467_0⟩:=Kd.at_string (Kd.R_reads' HO_35.out).2.2 x37_1 p467 q467
        cases e467
        replace p467:=eq_true p467
        replace q467:=eq_true q467
        go_wp2_with (first|((with_reducible refine gate_callee (f:=67) rfl ?_);refine goesL_ (some 43) rfl rfl Tryd.func67 (by kernel_rfl) rfl #[.string (rdOf ByteArray.empty t464 x37_1)] rfl (aE1 rfl) ?_;(with_reducible refine (impl_EscNorm.calls k1 (rdOf ByteArray.empty t464 x37_1) t468 false _ A17.out).mono ?_);rintro e w22 ⟨rfl,hb⟩;refine ⟨_,rfl,?_⟩;have n0_:=bH HO_12 hb;have n1_:=bH HO_35 hb;have n2_:=Am (blk_below (bB BK455.out) hb);have n3_:=Am (bT (by repeat (first|(with_reducible first|exact HB.out|apply bA|apply bN|apply bD|refine bS ?_ GE455.out)|exact HB.out)) hb);clear HO_12 HO_35 BK455 HB;have HO_12:=n0_;have HO_35:=n1_;have BK455:=n2_;have HB:=n3_;clear n0_ n1_ n2_ n3_;(try clear hb);obtain ⟨hcz23_0,hcz23_1,hcz23_2,hcz23_3,hfz23_0,hfz23_1,hfz23_2,hfz23_3⟩:=bX BK455.out))
        refine bodyPost_ret (results_ct rfl _ _ gb455 25 #[.string (⟨#[]⟩:ByteArray), .slice none 0 0, .bool false, .string (⟨#[]⟩:ByteArray)] (0,0) _ rfl (by refine bB ?_;apply bP;refine bB ?_;exact BK455.out) Tryd.underlying25 rfl (by kernel_rfl)) rfl ?_
        exact ⟨_,by first|rfl|(simp <;> rfl)|(simp [*] <;> rfl),by first|exact Kd.R_nil _ _ _ _ _|exact Kd.N_nil _ _ _ _ _|exact Kd.V_nil _ _ _ _ _|exact Kd.Q_nil _ _ _ _ _|exact Kd.S_nil _ _ _ _ _,by repeat (first|(with_reducible first|exact HB.out|apply bA|apply bN|apply bD|refine bS ?_ GE455.out)|exact HB.out)⟩
      ·rw [if_neg c16] at H
       exact absurd H (by simp)
     ·rw [if_neg c15] at H
      exact absurd H (by simp)
    ·rw [if_neg c14] at H
     have c14b0:decide (x37_1 < (t464.length:Int)) = false:=decide_eq_false c14
     clear c14
     replace H:=bI H
     obtain ⟨t473,A240,H⟩:=H
     replace H:((impl_AddrOk.f k1 a0 t473 t458 t459).bind fun t477=>(if t477 = true then (some (a0,t473,t458,t459,true)) else (some ((⟨#[]⟩:ByteArray),([]:List ByteArray),false,(⟨#[]⟩:ByteArray),false)))) = some (r1,r2,r3,r4,r5):=H
     have A24:=Am A240
     clear A240
     replace H:=bI H
     obtain ⟨t477,A250,H⟩:=H
     replace H:(if t477 = true then (some (a0,t473,t458,t459,true)) else (some ((⟨#[]⟩:ByteArray),([]:List ByteArray),false,(⟨#[]⟩:ByteArray),false))) = some (r1,r2,r3,r4,r5):=H
     have A25:=Am A250
     clear A250
     by_cases c26:t477 = true
     ·subst c26
      have H1:(some (a0,t473,t458,t459,true)) = some (r1,r2,r3,r4,r5):=by rw [if_pos rfl] at H;exact H
      clear H
      have H:=H1
      clear H1
      simp only [Option.some.injEq,Prod.mk.injEq] at H
      obtain ⟨rfl,rfl,rfl,rfl,rfl⟩:=H
      obtain ⟨Ao27,co27,eo27⟩:=Kd.R_slice HO_12.out
      subst eo27
      go_wp2_with (first|((with_reducible refine gate_callee (f:=69) rfl ?_);refine goesL_ (some 56) rfl rfl Tryd.func69 (by kernel_rfl) rfl #[.slice Ao27 x12_1.length co27] rfl (aE1 rfl) ?_;(with_reducible refine (impl_PathClean.calls k1 _ _ x12_1 t473 _ ?side1 ?side2 A24.out).mono ?_);(case side1=>repeat (first|exact (Kd.R_reads' HO_12.out).2.2|(with_reducible refine bC ?_)));(case side2=>exact (Kd.R_reads' HO_12.out).2.1);rintro e w28 ⟨v474,rfl,ho0,hb⟩;refine ⟨_,rfl,?_⟩;have n0_:=Am (Kd.R_elder' (bR HO_12.out) (Kd.R_base ho0) hb);have n1_:=Am (Kd.R_elder' (bR HO_35.out) (Kd.R_base ho0) hb);have n2_:=Am (Kd.R_lower (Kd.R_new' (Kd.R_new' ho0 (Kd.R_lt (bR HO_12.out))) (Kd.R_lt (bR HO_35.out))) (bU (by repeat (first|(with_reducible first|exact HB.out|apply bA|apply bN|apply bD|refine bS ?_ GE455.out)|exact HB.out))));have n3_:=Am (blk_below (bB BK455.out) hb);have n4_:=Am (bT (by repeat (first|(with_reducible first|exact HB.out|apply bA|apply bN|apply bD|refine bS ?_ GE455.out)|exact HB.out)) hb);clear HO_12 HO_35 BK455 HB;have HO_12:=n0_;have HO_35:=n1_;have HO475:=n2_;have BK455:=n3_;have HB:=n4_;clear n0_ n1_ n2_ n3_ n4_;(try clear hb);(try clear ho0);obtain ⟨Ao29,co29,eo29⟩:=Kd.R_slice HO475.out;subst eo29)|((with_reducible refine gate_dst (N:=17) rfl ?_);refine box_event ?hg (N:=17) ?hd (cs:=#[.string (⟨#[]⟩:ByteArray), .slice none 0 0, .bool false, .string (⟨#[]⟩:ByteArray)]) (t:=25) ?hr ?_;(case hd=>rfl);(case hg=>rfl);(case hr=>(go_simp <;> rfl));intro gb476 hg w30 hbox hb;have n0_:=bH HO_12 hb;have n1_:=bH HO_35 hb;have n2_:=bH HO475 hb;have n3_:=Am (blk_below (bB BK455.out) hb);have n4_:=Am (bT (by repeat (first|(with_reducible first|exact HB.out|apply bA|apply bN|apply bD|refine bS ?_ GE455.out)|exact HB.out)) hb);have n5_:=Am (hbox);have n6_:=Am ((by rw [hg];exact (bU (by repeat (first|(with_reducible first|exact HB.out|apply bA|apply bN|apply bD|refine bS ?_ GE455.out)|exact HB.out))):w.heap.size ≤ gb476));have n7_:=n6_;have n8_:=Am ((by rw [hg];exact Nat.ne_of_lt (blk_lt (bB BK455.out)):gb455 ≠ gb476));have n9_:=Am ((by rw [hg];exact Nat.ne_of_gt (blk_lt (bB BK455.out)):gb476 ≠ gb455));clear HO_12 HO_35 HO475 BK455 HB;have HO_12:=n0_;have HO_35:=n1_;have HO475:=n2_;have BK455:=n3_;have HB:=n4_;have BK476:=n5_;have GW476:=n6_;have GE476:=n7_;have NB455_476:=n8_;have NB476_455:=n9_;clear n0_ n1_ n2_ n3_ n4_ n5_ n6_ n7_ n8_ n9_ hb hbox hg;have hnb31:=NB476_455.out;have hnc31:=NB455_476.out;obtain ⟨hcz32_0,hcz32_1,hcz32_2,hcz32_3,hfz32_0,hfz32_1,hfz32_2,hfz32_3⟩:=bX BK476.out)|((with_reducible refine gate_callee (f:=28) rfl ?_);refine goesL_ (some 61) rfl rfl Tryd.func28 (by kernel_rfl) rfl #[.agg #[.string a0, .slice Ao29 t473.length co29, .bool t458, .string t459]] rfl (aE1 rfl) ?_;(with_reducible refine (impl_AddrOk.calls k1 a0 _ _ t473 t458 t459 true _ ?side1 ?side2 A25.out).mono ?_);(case side1=>refine (Kd.R_reads' (e:=9) (base:=w.heap.size) (ok:=fun k_=>((True ∧ some k_ ≠ (.slice Ao27 x12_1.length co27:Value).ownBlock) ∧ some k_ ≠ (.slice Ao13 t464.length co13:Value).ownBlock)) (n:=t473.length) (c:=co29) ?_).2.2;exact (by (with_reducible repeat (first|apply rA|apply rN|apply rD));exact (bQ HO475.out BK476.out (by decide) _ _ _ _)));(case side2=>exact (Kd.R_reads' HO475.out).2.1);rintro e w33 ⟨rfl,hb⟩;refine ⟨_,rfl,?_⟩;have n0_:=Am (Kd.R_below (by (with_reducible repeat (first|apply rA|apply rN|apply rD));exact (bQ HO_12.out BK476.out (by decide) _ _ _ _)) hb);have n1_:=Am (Kd.R_below (by (with_reducible repeat (first|apply rA|apply rN|apply rD));exact (bQ HO_35.out BK476.out (by decide) _ _ _ _)) hb);have n2_:=Am (Kd.R_below (by (with_reducible repeat (first|apply rA|apply rN|apply rD));exact (bQ HO475.out BK476.out (by decide) _ _ _ _)) hb);have n3_:=Am (blk_below (g:=gb455) (o:=.cells #[.string x456000_1, .slice none 0 0, .bool x456002_1, .string x456003_1] 25 (0,0)) (by refine bB ?_;refine bF ?_ NB455_476.out;refine bB ?_;exact BK455.out) hb);have n4_:=Am (blk_below (g:=gb476) (o:=.cells #[.string a0, .slice Ao29 t473.length co29, .bool t458, .string t459] 25 (0,0)) (by refine bB ?_;apply bP;refine bB ?_;exact BK476.out) hb);have n5_:=Am (bT (by repeat (first|(with_reducible first|exact HB.out|apply bA|apply bN|apply bD|refine bS ?_ GE455.out|refine bS ?_ GE476.out)|exact HB.out)) hb);clear HO_12 HO_35 HO475 BK455 BK476 HB;have HO_12:=n0_;have HO_35:=n1_;have HO475:=n2_;have BK455:=n3_;have BK476:=n4_;have HB:=n5_;clear n0_ n1_ n2_ n3_ n4_ n5_;(try clear hb);obtain ⟨hcz34_0,hcz34_1,hcz34_2,hcz34_3,hfz34_0,hfz34_1,hfz34_2,hfz34_3⟩:=bX BK476.out;obtain ⟨hcz35_0,hcz35_1,hcz35_2,hcz35_3,hfz35_0,hfz35_1,hfz35_2,hfz35_3⟩:=bX BK455.out))
      refine bodyPost_ret (results_ct rfl _ _ gb455 25 #[.string a0, .slice Ao29 t473.length co29, .bool t458, .string t459] (0,0) _ rfl (by refine bB ?_;apply bP;refine bB ?_;exact BK455.out) Tryd.underlying25 rfl (by kernel_rfl)) rfl ?_
      exact ⟨_,by first|rfl|(simp <;> rfl)|(simp [*] <;> rfl),by (with_reducible repeat (first|apply rA|apply rN|apply rD));exact Kd.R_mono (Kd.R_far (p:=⟨gb455,3,none⟩) (Kd.R_far (p:=⟨gb455,2,none⟩) (Kd.R_far (p:=⟨gb455,1,none⟩) (Kd.R_far (p:=⟨gb455,0,none⟩) (Kd.R_types HO475.out BK455.out (by decide)) (fun _ hk=>hk.2) (.string a0)) (fun _ hk=>hk.2) (.slice Ao29 t473.length co29)) (fun _ hk=>hk.2) (.bool t458)) (fun _ hk=>hk.2) (.string t459)) (fun _ hk=>trivial),by repeat (first|(with_reducible first|exact HB.out|apply bA|apply bN|apply bD|refine bS ?_ GE455.out|refine bS ?_ GE476.out)|exact HB.out)⟩
     ·replace c26:=Bool.eq_false_iff.mpr c26
      subst c26
      have H1:(some ((⟨#[]⟩:ByteArray),([]:List ByteArray),false,(⟨#[]⟩:ByteArray),false)) = some (r1,r2,r3,r4,r5):=by rw [if_neg (show ¬ (false = true) by decide)] at H;exact H
      clear H
      have H:=H1
      clear H1
      simp only [Option.some.injEq,Prod.mk.injEq] at H
      obtain ⟨rfl,rfl,rfl,rfl,rfl⟩:=H
      obtain ⟨Ao36,co36,eo36⟩:=Kd.R_slice HO_12.out
      subst eo36
      go_wp2_with (first|((with_reducible refine gate_callee (f:=69) rfl ?_);refine goesL_ (some 56) rfl rfl Tryd.func69 (by kernel_rfl) rfl #[.slice Ao36 x12_1.length co36] rfl (aE1 rfl) ?_;(with_reducible refine (impl_PathClean.calls k1 _ _ x12_1 t473 _ ?side1 ?side2 A24.out).mono ?_);(case side1=>repeat (first|exact (Kd.R_reads' HO_12.out).2.2|(with_reducible refine bC ?_)));(case side2=>exact (Kd.R_reads' HO_12.out).2.1);rintro e w37 ⟨v474,rfl,ho0,hb⟩;refine ⟨_,rfl,?_⟩;have n0_:=Am (Kd.R_elder' (bR HO_12.out) (Kd.R_base ho0) hb);have n1_:=Am (Kd.R_elder' (bR HO_35.out) (Kd.R_base ho0) hb);have n2_:=Am (Kd.R_lower (Kd.R_new' (Kd.R_new' ho0 (Kd.R_lt (bR HO_12.out))) (Kd.R_lt (bR HO_35.out))) (bU (by repeat (first|(with_reducible first|exact HB.out|apply bA|apply bN|apply bD|refine bS ?_ GE455.out)|exact HB.out))));have n3_:=Am (blk_below (bB BK455.out) hb);have n4_:=Am (bT (by repeat (first|(with_reducible first|exact HB.out|apply bA|apply bN|apply bD|refine bS ?_ GE455.out)|exact HB.out)) hb);clear HO_12 HO_35 BK455 HB;have HO_12:=n0_;have HO_35:=n1_;have HO475:=n2_;have BK455:=n3_;have HB:=n4_;clear n0_ n1_ n2_ n3_ n4_;(try clear hb);(try clear ho0);obtain ⟨Ao38,co38,eo38⟩:=Kd.R_slice HO475.out;subst eo38)|((with_reducible refine gate_dst (N:=17) rfl ?_);refine box_event ?hg (N:=17) ?hd (cs:=#[.string (⟨#[]⟩:ByteArray), .slice none 0 0, .bool false, .string (⟨#[]⟩:ByteArray)]) (t:=25) ?hr ?_;(case hd=>rfl);(case hg=>rfl);(case hr=>(go_simp <;> rfl));intro gb476 hg w39 hbox hb;have n0_:=bH HO_12 hb;have n1_:=bH HO_35 hb;have n2_:=bH HO475 hb;have n3_:=Am (blk_below (bB BK455.out) hb);have n4_:=Am (bT (by repeat (first|(with_reducible first|exact HB.out|apply bA|apply bN|apply bD|refine bS ?_ GE455.out)|exact HB.out)) hb);have n5_:=Am (hbox);have n6_:=Am ((by rw [hg];exact (bU (by repeat (first|(with_reducible first|exact HB.out|apply bA|apply bN|apply bD|refine bS ?_ GE455.out)|exact HB.out))):w.heap.size ≤ gb476));have n7_:=n6_;have n8_:=Am ((by rw [hg];exact Nat.ne_of_lt (blk_lt (bB BK455.out)):gb455 ≠ gb476));have n9_:=Am ((by rw [hg];exact Nat.ne_of_gt (blk_lt (bB BK455.out)):gb476 ≠ gb455));clear HO_12 HO_35 HO475 BK455 HB;have HO_12:=n0_;have HO_35:=n1_;have HO475:=n2_;have BK455:=n3_;have HB:=n4_;have BK476:=n5_;have GW476:=n6_;have GE476:=n7_;have NB455_476:=n8_;have NB476_455:=n9_;clear n0_ n1_ n2_ n3_ n4_ n5_ n6_ n7_ n8_ n9_ hb hbox hg;have hnb40:=NB476_455.out;have hnc40:=NB455_476.out;obtain ⟨hcz41_0,hcz41_1,hcz41_2,hcz41_3,hfz41_0,hfz41_1,hfz41_2,hfz41_3⟩:=bX BK476.out)|((with_reducible refine gate_callee (f:=28) rfl ?_);refine goesL_ (some 61) rfl rfl Tryd.func28 (by kernel_rfl) rfl #[.agg #[.string a0, .slice Ao38 t473.length co38, .bool t458, .string t459]] rfl (aE1 rfl) ?_;(with_reducible refine (impl_AddrOk.calls k1 a0 _ _ t473 t458 t459 false _ ?side1 ?side2 A25.out).mono ?_);(case side1=>refine (Kd.R_reads' (e:=9) (base:=w.heap.size) (ok:=fun k_=>((True ∧ some k_ ≠ (.slice Ao36 x12_1.length co36:Value).ownBlock) ∧ some k_ ≠ (.slice Ao13 t464.length co13:Value).ownBlock)) (n:=t473.length) (c:=co38) ?_).2.2;exact (by (with_reducible repeat (first|apply rA|apply rN|apply rD));exact (bQ HO475.out BK476.out (by decide) _ _ _ _)));(case side2=>exact (Kd.R_reads' HO475.out).2.1);rintro e w42 ⟨rfl,hb⟩;refine ⟨_,rfl,?_⟩;have n0_:=Am (Kd.R_below (by (with_reducible repeat (first|apply rA|apply rN|apply rD));exact (bQ HO_12.out BK476.out (by decide) _ _ _ _)) hb);have n1_:=Am (Kd.R_below (by (with_reducible repeat (first|apply rA|apply rN|apply rD));exact (bQ HO_35.out BK476.out (by decide) _ _ _ _)) hb);have n2_:=Am (Kd.R_below (by (with_reducible repeat (first|apply rA|apply rN|apply rD));exact (bQ HO475.out BK476.out (by decide) _ _ _ _)) hb);have n3_:=Am (blk_below (g:=gb455) (o:=.cells #[.string x456000_1, .slice none 0 0, .bool x456002_1, .string x456003_1] 25 (0,0)) (by refine bB ?_;refine bF ?_ NB455_476.out;refine bB ?_;exact BK455.out) hb);have n4_:=Am (blk_below (g:=gb476) (o:=.cells #[.string a0, .slice Ao38 t473.length co38, .bool t458, .string t459] 25 (0,0)) (by refine bB ?_;apply bP;refine bB ?_;exact BK476.out) hb);have n5_:=Am (bT (by repeat (first|(with_reducible first|exact HB.out|apply bA|apply bN|apply bD|refine bS ?_ GE455.out|refine bS ?_ GE476.out)|exact HB.out)) hb);clear HO_12 HO_35 HO475 BK455 BK476 HB;have HO_12:=n0_;have HO_35:=n1_;have HO475:=n2_;have BK455:=n3_;have BK476:=n4_;have HB:=n5_;clear n0_ n1_ n2_ n3_ n4_ n5_;(try clear hb);obtain ⟨hcz43_0,hcz43_1,hcz43_2,hcz43_3,hfz43_0,hfz43_1,hfz43_2,hfz43_3⟩:=bX BK455.out))
      refine bodyPost_ret (results_ct rfl _ _ gb455 25 #[.string (⟨#[]⟩:ByteArray), .slice none 0 0, .bool false, .string (⟨#[]⟩:ByteArray)] (0,0) _ rfl (by refine bB ?_;apply bP;refine bB ?_;exact BK455.out) Tryd.underlying25 rfl (by kernel_rfl)) rfl ?_
      exact ⟨_,by first|rfl|(simp <;> rfl)|(simp [*] <;> rfl),by first|exact Kd.R_nil _ _ _ _ _|exact Kd.N_nil _ _ _ _ _|exact Kd.V_nil _ _ _ _ _|exact Kd.Q_nil _ _ _ _ _|exact Kd.S_nil _ _ _ _ _,by repeat (first|(with_reducible first|exact HB.out|apply bA|apply bN|apply bD|refine bS ?_ GE455.out|refine bS ?_ GE476.out)|exact HB.out)⟩
 ·replace c6:=Bool.eq_false_iff.mpr c6
  subst c6
  have H1:(some ((⟨#[]⟩:ByteArray),([]:List ByteArray),false,(⟨#[]⟩:ByteArray),false)) = some (r1,r2,r3,r4,r5):=by rw [if_neg (show ¬ (false = true) by decide)] at H;exact H
  clear H
  have H:=H1
  clear H1
  simp only [Option.some.injEq,Prod.mk.injEq] at H
  obtain ⟨rfl,rfl,rfl,rfl,rfl⟩:=H
  go_enter Tryd.func40,Tryd.ntmps40
  go_wp2_with (first|((with_reducible refine gate_dst (N:=6) rfl ?_);refine box_event ?hg (N:=6) ?hd (cs:=#[.string (⟨#[]⟩:ByteArray), .slice none 0 0, .bool false, .string (⟨#[]⟩:ByteArray)]) (t:=25) ?hr ?_;(case hd=>rfl);(case hg=>rfl);(case hr=>(go_simp <;> rfl));intro gb455 hg w44 hbox hb;have n0_:=Am (bT (by repeat (first|(with_reducible first|exact HB.out|apply bA|apply bN|apply bD)|exact HB.out)) hb);have n1_:=Am (hbox);have n2_:=Am ((by rw [hg];exact (bU (by repeat (first|(with_reducible first|exact HB.out|apply bA|apply bN|apply bD)|exact HB.out))):w.heap.size ≤ gb455));have n3_:=n2_;clear HB;have HB:=n0_;have BK455:=n1_;have GW455:=n2_;have GE455:=n3_;clear n0_ n1_ n2_ n3_ hb hbox hg)|((with_reducible refine gate_callee (f:=36) rfl ?_);refine goesL_ (some 20) rfl rfl Tryd.func36 (by kernel_rfl) rfl #[.string a2, .string (⟨#[63]⟩:ByteArray)] rfl (aE2 rfl rfl) ?_;(with_reducible refine (strings_Cut.calls a2 (⟨#[63]⟩:ByteArray) t456 t457 t458 _ A4.out).mono ?_);rintro e w' ⟨rfl,⟨nd,rfl⟩⟩;refine ⟨_,rfl,?_⟩;(try (rw [drewN_self w44];generalize hq_:World.drewN w44 _ = w44;have n0_:Aside0 (w44.heap[gb455]? = some (.cells #[.string (⟨#[]⟩:ByteArray), .slice none 0 0, .bool false, .string (⟨#[]⟩:ByteArray)] 25 (0,0))):=⟨by rw [← hq_];exact (bB BK455.out)⟩;have n1_:Aside0 (Below w.heap.size w w44):=⟨by rw [← hq_];exact (by repeat (first|(with_reducible first|exact HB.out|apply bA|apply bN|apply bD|refine bS ?_ GE455.out)|exact HB.out))⟩;clear BK455 HB hq_;have BK455:=n0_;have HB:=n1_;clear n0_ n1_)))|((with_reducible refine gate_callee (f:=67) rfl ?_);refine goesL_ (some 26) rfl rfl Tryd.func67 (by kernel_rfl) rfl #[.string t457] rfl (aE1 rfl) ?_;(with_reducible refine (impl_EscNorm.calls k t457 t459 false _ A5.out).mono ?_);rintro e w45 ⟨rfl,hb⟩;refine ⟨_,rfl,?_⟩;have n0_:=Am (blk_below (bB BK455.out) hb);have n1_:=Am (bT (by repeat (first|(with_reducible first|exact HB.out|apply bA|apply bN|apply bD|refine bS ?_ GE455.out)|exact HB.out)) hb);clear BK455 HB;have BK455:=n0_;have HB:=n1_;clear n0_ n1_;(try clear hb);obtain ⟨hcz46_0,hcz46_1,hcz46_2,hcz46_3,hfz46_0,hfz46_1,hfz46_2,hfz46_3⟩:=bX BK455.out))
  refine bodyPost_ret (results_ct rfl _ _ gb455 25 #[.string (⟨#[]⟩:ByteArray), .slice none 0 0, .bool false, .string (⟨#[]⟩:ByteArray)] (0,0) _ rfl (by refine bB ?_;apply bP;refine bB ?_;exact BK455.out) Tryd.underlying25 rfl (by kernel_rfl)) rfl ?_
  exact ⟨_,by first|rfl|(simp <;> rfl)|(simp [*] <;> rfl),by first|exact Kd.R_nil _ _ _ _ _|exact Kd.N_nil _ _ _ _ _|exact Kd.V_nil _ _ _ _ _|exact Kd.Q_nil _ _ _ _ _|exact Kd.S_nil _ _ _ _ _,by repeat (first|(with_reducible first|exact HB.out|apply bA|apply bN|apply bD|refine bS ?_ GE455.out)|exact HB.out)⟩

/-! ### stringslite_CutPrefix: function 81 -/
def stringslite_CutPrefix.f (a0:ByteArray) (a1:ByteArray):Option (ByteArray × Bool):=(stringslite_HasPrefix.f a0 a1).bind fun t478=>(if t478 = true then (if 0 ≤ (a1.size:Int) then (if (a1.size:Int) ≤ (a0.size:Int) then (some (a0.extract ((a1.size:Int):Int).toNat a0.size,true)) else (none)) else (none)) else (some (a0,false)))
theorem stringslite_CutPrefix.calls (a0:ByteArray) (a1:ByteArray) (r1:ByteArray) (r2:Bool) (w:World) (h:stringslite_CutPrefix.f a0 a1 = some (r1,r2)) :
  Calls Tryd.prog 81 #[.string a0, .string a1] w fun e w'=>e = .returned (.tuple #[.string r1, .bool r2]) ∧ Drawn0 w w':=by
 have H:((stringslite_HasPrefix.f a0 a1).bind fun t478=>(if t478 = true then (if 0 ≤ (a1.size:Int) then (if (a1.size:Int) ≤ (a0.size:Int) then (some (a0.extract ((a1.size:Int):Int).toNat a0.size,true)) else (none)) else (none)) else (some (a0,false)))) = some (r1,r2):=h
 clear h
 replace H:=bI H
 obtain ⟨t478,A30,H⟩:=H
 replace H:(if t478 = true then (if 0 ≤ (a1.size:Int) then (if (a1.size:Int) ≤ (a0.size:Int) then (some (a0.extract ((a1.size:Int):Int).toNat a0.size,true)) else (none)) else (none)) else (some (a0,false))) = some (r1,r2):=H
 have A3:=Am A30
 clear A30
 by_cases c4:t478 = true
 ·subst c4
  have H1:(if 0 ≤ (a1.size:Int) then (if (a1.size:Int) ≤ (a0.size:Int) then (some (a0.extract ((a1.size:Int):Int).toNat a0.size,true)) else (none)) else (none)) = some (r1,r2):=by rw [if_pos rfl] at H;exact H
  clear H
  have H:=H1
  clear H1
  by_cases c5:0 ≤ (a1.size:Int)
  ·rw [if_pos c5] at H
   have c5b0:=eq_true c5
   have c5b1:=decide_eq_true c5
   clear c5
   by_cases c6:(a1.size:Int) ≤ (a0.size:Int)
   ·rw [if_pos c6] at H
    have c6b0:=eq_true c6
    have c6b1:=decide_eq_true c6
    clear c6
    simp only [Option.some.injEq,Prod.mk.injEq] at H
    obtain ⟨rfl,rfl⟩:=H
    go_enter Tryd.func81,Tryd.ntmps81
    go_wp2_with (first|((with_reducible refine gate_callee (f:=63) rfl ?_);refine goesL_ (some 8) rfl rfl Tryd.func63 (by kernel_rfl) rfl #[.string a0, .string a1] rfl (aE2 rfl rfl) ?_;(with_reducible refine (stringslite_HasPrefix.calls a0 a1 true _ A3.out).mono ?_);rintro e w' ⟨rfl,⟨nd,rfl⟩⟩;refine ⟨_,rfl,?_⟩))
    go_ret2
    exact ⟨by first|rfl|(simp;done)|(simp only [i64_w,i32_w] <;> rfl)|(simp [*];done)|(simp [emp_bne,emp_beq];done),by repeat (first|exact Drawn0.refl _|apply Drawn0.step)⟩
   ·rw [if_neg c6] at H
    exact absurd H (by simp)
  ·rw [if_neg c5] at H
   exact absurd H (by simp)
 ·replace c4:=Bool.eq_false_iff.mpr c4
  subst c4
  have H1:(some (a0,false)) = some (r1,r2):=by rw [if_neg (show ¬ (false = true) by decide)] at H;exact H
  clear H
  have H:=H1
  clear H1
  simp only [Option.some.injEq,Prod.mk.injEq] at H
  obtain ⟨rfl,rfl⟩:=H
  go_enter Tryd.func81,Tryd.ntmps81
  go_wp2_with (first|((with_reducible refine gate_callee (f:=63) rfl ?_);refine goesL_ (some 8) rfl rfl Tryd.func63 (by kernel_rfl) rfl #[.string a0, .string a1] rfl (aE2 rfl rfl) ?_;(with_reducible refine (stringslite_HasPrefix.calls a0 a1 false _ A3.out).mono ?_);rintro e w' ⟨rfl,⟨nd,rfl⟩⟩;refine ⟨_,rfl,?_⟩))
  go_ret2
  exact ⟨by first|rfl|(simp;done)|(simp only [i64_w,i32_w] <;> rfl)|(simp [*];done)|(simp [emp_bne,emp_beq];done),by repeat (first|exact Drawn0.refl _|apply Drawn0.step)⟩

/-! ### strings_CutPrefix: function 64 -/
def strings_CutPrefix.f (a0:ByteArray) (a1:ByteArray):Option (ByteArray × Bool):=(stringslite_CutPrefix.f a0 a1).bind fun bt479=>(some (bt479.1,bt479.2))
theorem strings_CutPrefix.calls (a0:ByteArray) (a1:ByteArray) (r1:ByteArray) (r2:Bool) (w:World) (h:strings_CutPrefix.f a0 a1 = some (r1,r2)) :
  Calls Tryd.prog 64 #[.string a0, .string a1] w fun e w'=>e = .returned (.tuple #[.string r1, .bool r2]) ∧ Drawn0 w w':=by
 have H:((stringslite_CutPrefix.f a0 a1).bind fun bt479=>(some (bt479.1,bt479.2))) = some (r1,r2):=h
 clear h
 replace H:=bI H
 obtain ⟨⟨t479,t480⟩,A30,H⟩:=H
 replace H:(some (t479,t480)) = some (r1,r2):=H
 have A3:=Am A30
 clear A30
 simp only [Option.some.injEq,Prod.mk.injEq] at H
 obtain ⟨rfl,rfl⟩:=H
 go_enter Tryd.func64,Tryd.ntmps64
 go_wp2_with (first|((with_reducible refine gate_callee (f:=81) rfl ?_);refine goesL_ (some 8) rfl rfl Tryd.func81 (by kernel_rfl) rfl #[.string a0, .string a1] rfl (aE2 rfl rfl) ?_;(with_reducible refine (stringslite_CutPrefix.calls a0 a1 t479 t480 _ A3.out).mono ?_);rintro e w' ⟨rfl,⟨nd,rfl⟩⟩;refine ⟨_,rfl,?_⟩))
 go_ret2
 exact ⟨by first|rfl|(simp;done)|(simp only [i64_w,i32_w] <;> rfl)|(simp [*];done)|(simp [emp_bne,emp_beq];done),by repeat (first|exact Drawn0.refl _|apply Drawn0.step)⟩

/-! ### strings_IndexAny: function 65 -/
def strings_IndexAny.f (a0 a1:ByteArray):Option Int:=if a1.data.toList = [47,63] ∧ a0.size ≤ 1000000 then some (Go.Lib.indexAny a0.data.toList [47,63]) else none
def strings_IndexAny.two:ByteArray:=⟨#[47,63]⟩
theorem strings_IndexAny.two_size:strings_IndexAny.two.size = 2:=rfl
theorem strings_IndexAny.two_at (p:Nat) (h:p < 2):Utf8.decode strings_IndexAny.two p = ((if p = 0 then 47 else 63),1):=by
 have hc:p = 0 ∨ p = 1:=by omega
 rcases hc with rfl|rfl <;> rfl
set_option maxHeartbeats 2000000 in
set_option maxRecDepth 100000 in
theorem strings_IndexAny.bad (w:World) :
  Calls Tryd.prog 82 #[.string strings_IndexAny.two, .int .i32 65533] w fun e w'=>e = .returned (.int .i64 (-1)) ∧ Below w.heap.size w w':=by
 have HX:=Am (fun (p:Nat) (ty:TypeId) (hp:p < strings_IndexAny.two.size)=>run_next_any (P:=Tryd.prog) w strings_IndexAny.two p ty hp)
 have HE:=Am (fun (p:Nat) (ty:TypeId) (hp:¬ p < strings_IndexAny.two.size)=>run_next_end (P:=Tryd.prog) w strings_IndexAny.two p ty hp)
 go_enter Tryd.func82,Tryd.ntmps82
 go_wp2
 go_loopw [] (fun w'=>∃ p:Nat,p ≤ 2 ∧ w' = w.iter strings_IndexAny.two p) (fun w'=>2 - w'.iterPos w.heap.size)
 case atStart=>exact ⟨0,Nat.zero_le _,rfl⟩
 case round =>
  obtain ⟨p,hp,rfl⟩:=hrel
  by_cases hlt:p < 2
  ·obtain ⟨q,hq0,hq1,hq⟩:∃ q:Nat,1 ≤ q ∧ q ≤ 100 ∧ Utf8.decode strings_IndexAny.two p = (q,1):=⟨_,by split <;> omega,by split <;> omega,strings_IndexAny.two_at p hlt⟩
   have hx:∀ ty,(Instr.next (.pointer (some ⟨w.heap.size,0,none⟩)) true ty).run Tryd.prog (w.iter strings_IndexAny.two p) = .ok (.tuple #[.bool true, .int .i64 p, .int .i32 q]) (w.iter strings_IndexAny.two (p + 1)):=fun ty=>by
    rw [HX.out p ty hlt,hq]
   have hd:((q:Int) == 65533) = false:=beq_eq_false_iff_ne.mpr (by omega)
   clear hq hq0 hq1
   go_wp2
   go_roundw
   case rel=>exact ⟨p + 1,by omega,rfl⟩
   case measure=>simp;omega
  ·obtain rfl:p = 2:=by omega
   have hx:=fun ty=>HE.out 2 ty (by decide)
   go_wp2
   go_ret
   exact ⟨rfl,below_alloc (Below.refl _ _) _⟩
theorem strings_IndexAny.rest (x:Int) (W:World):Calls Tryd.prog 96 #[.string (strings_IndexAny.two.extract 2 2), .int .u8 x] W fun e w'=>e = .returned (.int .i64 (-1)) ∧ w' = W :=
 Tryd.strings_IndexByte _ x W
theorem strings_IndexAny.later {f:FuncId} {args:Array Value} {w:World} {a n:Nat} {v:Value} (h:Calls Tryd.prog f args (w.drewN (a + n)) fun e w'=>e = .returned v ∧ w' = w.drewN (a + n)) :
  Calls Tryd.prog f args (w.drewN (a + n)) fun e w''=>e = .returned v ∧ ∃ m,w'' = w.drewN (a + m) :=
 h.mono fun _ _ ⟨he,hm⟩=>⟨he,n,hm⟩
set_option maxHeartbeats 2000000 in
set_option maxRecDepth 100000 in
theorem strings_IndexAny.rune (r:Int) (w:World) (h0:128 ≤ r) (h1:r ≤ 1114111) (h2:r < 55296 ∨ 57343 < r) :
  Calls Tryd.prog 82 #[.string strings_IndexAny.two, .int .i32 r] w fun e w'=>e = .returned (.int .i64 (-1)) ∧ Below w.heap.size w w':=by
 by_cases hb:r = 65533
 ·subst hb;exact strings_IndexAny.bad w
 have hd:(r == 65533) = false:=beq_eq_false_iff_ne.mpr hb
 have hv:Go.Lib.validRune r = true:=by unfold Go.Lib.validRune;exact decide_eq_true (by omega)
 have hv2:Utf8.valid r = true:=by
  unfold Utf8.valid
  simp only [Bool.or_eq_true,Bool.and_eq_true,decide_eq_true_eq]
  omega
 obtain ⟨hs2,hs4,hs1⟩:=encode_facts r hv2 h0
 obtain ⟨s,hs⟩:∃ s,Utf8.encode r = s:=⟨_,rfl⟩
 rw [hs] at hs2 hs4
 have hs3:∀ h:s.size - 1 < s.size,128 ≤ (s[s.size - 1]'h).toNat:=by subst hs;exact hs1
 have hl:¬ r < 128:=by omega
 have hge:(0:Int) ≤ r:=by omega
 have HV:=Am hv
 have H1:=Am hs3
 clear hv hv2 hb h2 h1 h0 hs1 hs3
 have ht:=strings_IndexAny.two_size
 by_cases c:s.size = 2
 ·have hlt1:1 < s.size:=by omega
  have htl:1 < strings_IndexAny.two.size:=by decide
  have h63:strings_IndexAny.two[1]'htl = 63:=rfl
  have hlast:128 ≤ (s[1]'hlt1).toNat:=by
   have:=H1.out (by omega)
   have e:s.size - 1 = 1:=by omega
   simpa only [e] using this
  have hne:((63:Int) == ((s[1]'hlt1).toNat:Int)) = false:=beq_eq_false_iff_ne.mpr (by omega)
  have hne2:((63:Int) != ((s[1]'hlt1).toNat:Int)) = true:=bne_iff_ne.mpr (by omega)
  have h63n:((strings_IndexAny.two[1]'htl).toNat:Int) = 63:=rfl
  clear H1 hlast hs2 hs4 h63
  go_enter Tryd.func82,Tryd.ntmps82
  go_wp2_with (go_at_call 97;refine (Tryd.utf8_ValidRune _ _).mono ?_;rintro e w' ⟨rfl,hw⟩;rw [hw,HV.out])
  go_step3
  go_wp2
  refine wp_loop_rounds 1 ?_
  rw [rounds_succ]
  go_wp2
  go_step3
  go_wp2
  go_quiet (fail)
  go_wp2
  go_quiet ((go_at_call 96;exact strings_IndexAny.later (strings_IndexAny.rest _ _)))
  go_wp2
  rw [Exit.noGoto_ret]
  go_wp2
  rw [Exit.noGoto_ret]
  go_ret
  exact ⟨rfl,pw_below_drewN (Below.refl _ _) _⟩
 ·have c3:(2:Int) ≤ (s.size:Int) - 1:=by omega
  clear c
  go_enter Tryd.func82,Tryd.ntmps82
  go_wp2_with (go_at_call 97;refine (Tryd.utf8_ValidRune _ _).mono ?_;rintro e w' ⟨rfl,hw⟩;rw [hw,HV.out])
  go_step3
  go_wp2
  refine wp_loop_rounds 1 ?_
  rw [rounds_succ]
  go_wp2
  rw [Exit.noGoto_ret]
  go_ret
  exact ⟨rfl,Below.refl _ _⟩
theorem strings_IndexAny.get (s:ByteArray) (j:Nat) (h:j < s.size):s.data.toList[j]? = some (s.get! j):=by
 rw [Go.Lib.data_getElem? s j h]
 congr 1
 exact (getElem!_pos s.data j h).symm
theorem strings_IndexAny.dec (s:ByteArray) (i:Nat) (h:i < s.size) (hb:128 ≤ (s.get! i).toNat) :
  ∃ r n:Nat,Utf8.decode s i = (r,n) ∧ 128 ≤ r ∧ r ≤ 1114111 ∧ (r < 55296 ∨ 57343 < r) ∧ 1 ≤ n ∧ ∀ j,i ≤ j → j < i + n → j < s.size ∧ 128 ≤ (s.get! j).toNat:=by
 have one:∀ j,i ≤ j → j < i + 1 → j < s.size ∧ 128 ≤ (s.get! j).toNat:=fun j h1 h2=>by
  obtain rfl:j = i:=by omega
  exact ⟨h,hb⟩
 have bad:∃ r n:Nat,(Utf8.runeError,1) = (r,n) ∧ 128 ≤ r ∧ r ≤ 1114111 ∧ (r < 55296 ∨ 57343 < r) ∧ 1 ≤ n ∧ ∀ j,i ≤ j → j < i + n → j < s.size ∧ 128 ≤ (s.get! j).toNat :=
  ⟨_,_,rfl,by unfold Utf8.runeError;omega,by unfold Utf8.runeError;omega, .inr (by unfold Utf8.runeError;omega),Nat.le_refl _,one⟩
 have byte:∀ k,(s.get! k).toNat < 256:=fun k=>(s.get! k).toNat_lt
 unfold Utf8.decode
 simp only [Nat.add_zero]
 rw [if_neg (by omega)]
 have b0:=byte i
 split
 ·rename_i c
  simp only [Bool.and_eq_true,decide_eq_true_eq,beq_iff_eq] at c
  split
  ·refine ⟨_,_,rfl,by omega,by have:=byte (i + 1);omega, .inl (by omega),by omega,fun j h1 h2=>?_⟩
   rcases (by omega:j = i ∨ j = i + 1) with rfl|rfl
   ·exact ⟨h,hb⟩
   ·exact ⟨c.2.1,by omega⟩
  ·exact bad
 split
 ·rename_i c
  simp only [Bool.and_eq_true,decide_eq_true_eq,beq_iff_eq] at c
  split
  ·rename_i v
   simp only [Utf8.valid,Bool.and_eq_true,Bool.or_eq_true,decide_eq_true_eq] at v
   refine ⟨_,_,rfl,by omega,by omega,by omega,by omega,fun j h1 h2=>?_⟩
   rcases (by omega:j = i ∨ j = i + 1 ∨ j = i + 2) with rfl|rfl|rfl
   ·exact ⟨h,hb⟩
   ·exact ⟨c.1.2.1,by omega⟩
   ·exact ⟨c.2.1,by omega⟩
  ·exact bad
 split
 ·rename_i c
  simp only [Bool.and_eq_true,decide_eq_true_eq,beq_iff_eq] at c
  split
  ·rename_i v
   simp only [Utf8.valid,Bool.and_eq_true,Bool.or_eq_true,decide_eq_true_eq] at v
   refine ⟨_,_,rfl,by omega,by omega,by omega,by omega,fun j h1 h2=>?_⟩
   rcases (by omega:j = i ∨ j = i + 1 ∨ j = i + 2 ∨ j = i + 3) with rfl|rfl|rfl|rfl
   ·exact ⟨h,hb⟩
   ·exact ⟨c.1.1.2.1,by omega⟩
   ·exact ⟨c.1.2.1,by omega⟩
   ·exact ⟨c.2.1,by omega⟩
  ·exact bad
 ·exact bad
theorem strings_IndexAny.past (s:ByteArray) (i n:Nat) (hn:Go.Lib.NoAny s.data.toList [47,63] i) (hb:∀ j,i ≤ j → j < i + n → j < s.size ∧ 128 ≤ (s.get! j).toNat):Go.Lib.NoAny s.data.toList [47,63] (i + n):=by
 intro j b hj he
 by_cases c:j < i
 ·exact hn j b c he
 ·obtain ⟨h1,h2⟩:=hb j (by omega) hj
  rw [strings_IndexAny.get s j h1] at he
  obtain rfl:=Option.some.inj he
  have e1:¬ s.get! j = 47:=fun e=>by rw [e] at h2;exact absurd h2 (by decide)
  have e2:¬ s.get! j = 63:=fun e=>by rw [e] at h2;exact absurd h2 (by decide)
  simp [e1,e2]
theorem strings_IndexAny.plain (r:Int) (w:World) (h0:0 ≤ r) (h1:r < 128) :
  Calls Tryd.prog 82 #[.string strings_IndexAny.two, .int .i32 r] w fun e w'=>e = .returned (.int .i64 (if r = 47 then 0 else if r = 63 then 1 else -1)) ∧ w' = w:=by
 refine (Tryd.strings_IndexRune_ascii strings_IndexAny.two r w h0 h1).mono fun e w' ⟨he,hw⟩=>⟨?_,hw⟩
 rw [he]
 obtain ⟨n,rfl⟩:=Int.eq_ofNat_of_zero_le h0
 have hn:n < 128:=by omega
 show Ending.returned (Value.int .i64 (Go.Lib.indexByte [47,63] (n.toUInt8))) = _
 congr 2
 have key:∀ m:Fin 128,Go.Lib.indexByte [47,63] (m.val.toUInt8) = if (m.val:Int) = 47 then 0 else if (m.val:Int) = 63 then 1 else -1:=by decide
 exact key ⟨n,hn⟩
set_option maxHeartbeats 4000000 in
set_option maxRecDepth 100000 in
theorem strings_IndexAny.short (s:ByteArray) (w:World) (h8:s.size ≤ 8) :
  Calls Tryd.prog 65 #[.string s, .string strings_IndexAny.two] w fun e w'=>e = .returned (.int .i64 (Go.Lib.indexAny s.data.toList [47,63])) ∧ Below w.heap.size w w':=by
 have hemp:strings_IndexAny.two.toList.isEmpty = false:=by rw [Go.ByteArray.toList_eq];rfl
 have hn1:((strings_IndexAny.two.size:Int) == 1) = false:=rfl
 have h8z:decide ((8:Int) < (s.size:Int)) = false:=decide_eq_false (by omega)
 have HL:=Am (show s.data.toList.length = s.size from (Go.Lib.size_eq s).symm)
 go_enter Tryd.func65,Tryd.ntmps65
 go_wp2_with (go_at_call 83;refine (Tryd.strings_shouldUseASCIISet _ _).mono ?_;rintro e w' ⟨rfl,hw⟩;rw [hw,h8z])
 clear h8z hemp hn1
 go_loopg [9,10] s.size (fun g _ _ wr=>∃ i:Nat,i + g = s.size ∧ wr.heap[w.heap.size]? = some (.stringIter s i) ∧ Aside0 (Below w.heap.size w wr) ∧ Aside0 (Go.Lib.NoAny s.data.toList [47,63] i))
 case atStart=>exact ⟨0,by omega,World.iter_heap w s 0,⟨below_alloc (Below.refl _ _) _⟩,⟨Go.Lib.NoAny.zero _ _⟩⟩
 case round =>
  obtain ⟨i,hig,hk,HB,HN⟩:=hrel
  have HK:=Am hk
  have hsz:w.heap.size < wr.heap.size:=(Array.getElem?_eq_some_iff.1 hk).1
  by_cases hz:i < s.size
  rotate_left
  ·obtain rfl:i = s.size:=by omega
   have hnx:=fun ty=>Go.Lib.run_next_end_at (P:=Tryd.prog) wr w.heap.size s s.size ty HK.out (by omega)
   clear hk
   go_wp2
   go_ret
   exact ⟨by rw [Go.Lib.indexAny_none (by rw [HL.out];exact HN.out)];rfl,HB.out⟩
  by_cases hb:128 ≤ (s.get! i).toNat
  ·obtain ⟨r,n,hd,r0,r1,r2,n1,hall⟩:=strings_IndexAny.dec s i hz hb
   have hnx:∀ ty,(Instr.next (.pointer (some ⟨w.heap.size,0,none⟩)) true ty).run Tryd.prog wr = .ok (.tuple #[.bool true, .int .i64 i, .int .i32 r]) (wr.iterAt w.heap.size s (i + n)):=fun ty=>by
    rw [Go.Lib.run_next_any_at wr w.heap.size s i ty HK.out hz,hd]
   have HP:=Am (strings_IndexAny.past s i n HN.out hall)
   have hin:i + n ≤ s.size:=by
    have:=(hall (i + n - 1) (by omega) (by omega)).1
    omega
   clear hk hd hall hb
   go_wp2_with (go_at_call 82;refine (strings_IndexAny.rune r _ (by omega) (by omega) (by omega)).mono ?_;rintro e w1 ⟨rfl,hbl⟩)
   go_roundg (s.size - (i + n))
   case measure=>omega
   case rel =>
    have hs2:(wr.iterAt w.heap.size s (i + n)).heap.size = wr.heap.size:=Go.Lib.iterAt_size _ _ _ _
    refine ⟨i + n,by omega,?_,⟨?_⟩,HP⟩
    ·rw [hbl.block w.heap.size (by rw [hs2];exact hsz)]
     exact Go.Lib.iterAt_heap _ _ _ _ _ HK.out
    ·exact below_then (Go.Lib.below_iterAt HB.out (Nat.le_refl _) s (i + n)) (by rw [hs2];omega) hbl
  ·obtain ⟨x,hx⟩:∃ x:UInt8,s[i]'hz = x:=⟨_,rfl⟩
   have hxl:s.data.toList[i]? = some x:=by rw [← hx];exact Go.Lib.data_getElem? s i hz
   have hx128:x.toNat < 128:=by
    have:=strings_IndexAny.get s i hz
    rw [hxl] at this
    obtain rfl:=Option.some.inj this
    omega
   have hnx:∀ ty,(Instr.next (.pointer (some ⟨w.heap.size,0,none⟩)) true ty).run Tryd.prog wr = .ok (.tuple #[.bool true, .int .i64 i, .int .i32 x.toNat]) (wr.iterAt w.heap.size s (i + 1)):=fun ty=>by
    rw [Go.Lib.run_next_ascii_at wr w.heap.size s i ty HK.out hz (by rw [hx];exact hx128),hx]
   have HX:=Am hxl
   clear hk hx hxl hb
   by_cases h47:x.toNat = 47
   ·have HI:=Am (Go.Lib.indexAny_hit HN.out HX.out (show ([47,63]:List UInt8).contains x = true by rw [show x = 47 from UInt8.toNat_inj.mp h47];rfl))
    rw [h47] at hnx
    clear h47 hx128
    go_wp2_with (go_at_call 82;refine (strings_IndexAny.plain 47 _ (by omega) (by omega)).mono ?_;rintro e w1 ⟨rfl,hw⟩;rw [hw])
    go_ret
    exact ⟨by rw [HI.out];rfl,Go.Lib.below_iterAt HB.out (Nat.le_refl _) s (i + 1)⟩
   by_cases h63:x.toNat = 63
   ·have HI:=Am (Go.Lib.indexAny_hit HN.out HX.out (show ([47,63]:List UInt8).contains x = true by rw [show x = 63 from UInt8.toNat_inj.mp h63];rfl))
    rw [h63] at hnx
    clear h63 h47 hx128
    go_wp2_with (go_at_call 82;refine (strings_IndexAny.plain 63 _ (by omega) (by omega)).mono ?_;rintro e w1 ⟨rfl,hw⟩;rw [hw])
    go_ret
    exact ⟨by rw [HI.out];rfl,Go.Lib.below_iterAt HB.out (Nat.le_refl _) s (i + 1)⟩
   ·have HP:=Am (HN.out.succ HX.out (show ([47,63]:List UInt8).contains x = false by
     have e1:¬ x = 47:=fun e=>h47 (by rw [e];rfl)
     have e2:¬ x = 63:=fun e=>h63 (by rw [e];rfl)
     simp [e1,e2]))
    have HM:=Am (show (if (x.toNat:Int) = 47 then (0:Int) else if (x.toNat:Int) = 63 then 1 else -1) = -1 by rw [if_neg (by omega),if_neg (by omega)])
    clear h47 h63
    go_wp2_with (go_at_call 82;refine (strings_IndexAny.plain x.toNat _ (by omega) (by omega)).mono ?_;rintro e w1 ⟨rfl,hw⟩;rw [hw,HM.out])
    go_roundg (s.size - (i + 1))
    case measure=>omega
    case rel=>exact ⟨i + 1,by omega,Go.Lib.iterAt_heap _ _ _ _ _ HK.out,⟨Go.Lib.below_iterAt HB.out (Nat.le_refl _) s (i + 1)⟩,HP⟩
theorem strings_IndexAny.zero (w:World):(zeroValue 77).run Tryd.prog w = .ok (.agg (Array.replicate 256 (.bool false))) w:=by kernel_rfl
theorem strings_IndexAny.calls (a0 a1:ByteArray) (r:Int) (w:World) (h:strings_IndexAny.f a0 a1 = some r) :
  Calls Tryd.prog 65 #[.string a0, .string a1] w fun e w'=>e = .returned (.int .i64 r) ∧ Below w.heap.size w w':=by
 unfold strings_IndexAny.f at h
 split at h
 rotate_left
 ·cases h
 rename_i hc
 obtain ⟨h1,h2⟩:=hc
 obtain rfl:=Option.some.inj h
 obtain rfl:a1 = strings_IndexAny.two:=ByteArray.ext (Array.toList_inj.mp h1)
 by_cases h8:a0.size ≤ 8
 ·exact strings_IndexAny.short a0 w h8
 ·refine (Tryd.strings_IndexAny_long strings_IndexAny.zero a0 strings_IndexAny.two w (by decide) (by omega) (by omega) (by decide) ?_).mono fun e w' ⟨he,hw⟩=>⟨he,?_⟩
  ·intro j b hb
   have hb':([47,63]:List UInt8)[j]? = some b:=hb
   match j,hb' with
   | 0,hb'=>cases hb';decide
   | 1,hb'=>cases hb';decide
  ·rw [hw];exact below_alloc (below_alloc (Below.refl _ _) _) _

/-! ### impl_smallLetters: function 66 -/
def impl_smallLetters.lo (x:Int):Int:=if 65 ≤ x ∧ x ≤ 90 then x + 32 else x
def impl_smallLetters.f (a0:ByteArray):Option ByteArray:=if a0.size ≤ 1000000 then some (strOfNums ((bytesOf a0).map impl_smallLetters.lo)) else none
def impl_smallLetters.upto (xs:List Int) (k:Nat):List Int:=(xs.take k).map impl_smallLetters.lo ++ xs.drop k
def impl_smallLetters.Row (w wr:World) (e:Nat) (xs:List Int):Prop :=
 Below w.heap.size w wr ∧ ∃ C:Array Value,wr.heap[w.heap.size]? = some (.cells C e (C.size,C.size + 1)) ∧ xs.length ≤ C.size ∧ ∀ j,j < xs.length → C[j]? = some (.int .u8 (xs.getD j 0))
theorem impl_smallLetters.upto_length (xs:List Int) (k:Nat):(impl_smallLetters.upto xs k).length = xs.length:=by
 unfold impl_smallLetters.upto;simp;omega
theorem impl_smallLetters.upto_at (xs:List Int) (k:Nat) (h:k < xs.length):(impl_smallLetters.upto xs k).getD k 0 = xs.getD k 0:=by
 unfold impl_smallLetters.upto
 rw [List.getD_eq_getElem?_getD,List.getElem?_append_right (by simp;omega)]
 simp only [List.length_map,List.length_take,List.getElem?_drop,List.getD_eq_getElem?_getD]
 rw [show k + (k - min k xs.length) = k by omega]
theorem impl_smallLetters.upto_succ (xs:List Int) (k:Nat) (h:k < xs.length):impl_smallLetters.upto xs (k + 1) = (impl_smallLetters.upto xs k).set k (impl_smallLetters.lo (xs.getD k 0)):=by
 unfold impl_smallLetters.upto
 have hl:((xs.take k).map impl_smallLetters.lo).length = k:=by simp;omega
 rw [List.set_append_right k _ (by omega),hl,Nat.sub_self,List.drop_eq_getElem_cons h,List.set_cons_zero,List.take_succ_eq_append_getElem h,List.map_append,List.getD_eq_getElem?_getD,List.getElem?_eq_getElem h]
 simp
theorem impl_smallLetters.upto_same (xs:List Int) (k:Nat) (h:k < xs.length) (hn:¬ (65 ≤ xs.getD k 0 ∧ xs.getD k 0 ≤ 90)):impl_smallLetters.upto xs (k + 1) = impl_smallLetters.upto xs k:=by
 rw [impl_smallLetters.upto_succ xs k h]
 have:impl_smallLetters.lo (xs.getD k 0) = (impl_smallLetters.upto xs k).getD k 0:=by
  rw [impl_smallLetters.upto_at xs k h];unfold impl_smallLetters.lo;rw [if_neg hn]
 rw [this,List.getD_eq_getElem?_getD,List.getElem?_eq_getElem (by rw [impl_smallLetters.upto_length];exact h),Option.getD_some,List.set_getElem_self]
theorem impl_smallLetters.upto_all (xs:List Int):impl_smallLetters.upto xs xs.length = xs.map impl_smallLetters.lo:=by
 unfold impl_smallLetters.upto;simp
theorem impl_smallLetters.Row.new (w:World) (e:Nat) (s:ByteArray):impl_smallLetters.Row w (Lib.bytesWorld w e s) e (bytesOf s):=by
 refine ⟨⟨rfl,rfl,rfl,by rw [Lib.bytesWorld_size];omega,fun k hk=>Lib.bytesWorld_at_old w e s k hk⟩,_,Lib.bytesWorld_at_new w e s,?_,fun j hj=>?_⟩
 ·rw [bytesOf_length];simp [Lib.bytesCells]
 ·rw [bytesOf_length] at hj
  have h:=Lib.bytesWorld_cell w e s j hj
  simp only [World.cell?,Lib.bytesWorld_at_new] at h
  rw [show (bytesOf s).getD j 0 = ((s.data.toList.getD j 0).toNat:Int) by
   unfold bytesOf
   rw [List.getD_eq_getElem?_getD,List.getD_eq_getElem?_getD,List.getElem?_map]
   have:j < s.data.toList.length:=by rw [data_length];exact hj
   rw [List.getElem?_eq_getElem this];rfl]
  simpa using h
theorem impl_smallLetters.Row.cell {w wr:World} {e:Nat} {xs:List Int} (h:impl_smallLetters.Row w wr e xs) {j:Nat} (hj:j < xs.length):wr.cell? ⟨w.heap.size,j,none⟩ = some (.int .u8 (xs.getD j 0)):=by
 obtain ⟨_,C,hC,hl,hx⟩:=h
 simp only [World.cell?,hC]
 simpa using hx j hj
theorem impl_smallLetters.Row.free {w wr:World} {e:Nat} {xs:List Int} (h:impl_smallLetters.Row w wr e xs) {j:Nat} (hj:j < xs.length):wr.frozen? ⟨w.heap.size,j,none⟩ = false:=by
 obtain ⟨_,C,hC,hl,hx⟩:=h
 simp only [World.frozen?,hC]
 simp;omega
theorem impl_smallLetters.Row.set {w wr:World} {e:Nat} {xs:List Int} (h:impl_smallLetters.Row w wr e xs) (j:Nat) (x:Int):impl_smallLetters.Row w (wr.setCell ⟨w.heap.size,j,none⟩ (.int .u8 x)) e (xs.set j x):=by
 obtain ⟨hb,C,hC,hl,hx⟩:=h
 refine ⟨below_set hb (Nat.le_refl _),C.setIfInBounds j (.int .u8 x),?_,by simpa using hl,fun i hi=>?_⟩
 ·simp [World.setCell,Array.getElem?_modify,hC]
 ·rw [List.length_set] at hi
  by_cases hij:i = j
  ·subst hij
   rw [Array.getElem?_setIfInBounds_self_of_lt (by omega),List.getD_eq_getElem?_getD,List.getElem?_set_self hi];rfl
  ·rw [Array.getElem?_setIfInBounds_ne (Ne.symm hij),hx i hi,List.getD_eq_getElem?_getD,List.getD_eq_getElem?_getD,List.getElem?_set_ne (Ne.symm hij)]
theorem impl_smallLetters.Row.reads {w wr:World} {e:Nat} {xs:List Int} (h:impl_smallLetters.Row w wr e xs) (hm:xs.length ≤ 1000000):ReadsInt wr .u8 (some ⟨w.heap.size,0,none⟩) xs.length xs:=by
 refine ⟨rfl,by omega,fun _=>⟨_,rfl,fun j hj=>?_⟩⟩
 rw [add_plain];exact h.cell hj
theorem impl_smallLetters.byte_bd (s:ByteArray) (k:Nat):0 ≤ (bytesOf s).getD k 0 ∧ (bytesOf s).getD k 0 ≤ 255:=by
 have:=bt_range s k
 rw [← rd_bytesOf] at this
 simpa [rd] using this
theorem impl_smallLetters.calls (a0:ByteArray) (r:ByteArray) (w:World) (h:impl_smallLetters.f a0 = some r) :
  Calls Tryd.prog 66 #[.string a0] w fun e w'=>e = .returned (.string r) ∧ Below w.heap.size w w':=by
 have hs:a0.size ≤ 1000000:=by
  unfold impl_smallLetters.f at h
  split at h
  ·assumption
  ·cases h
 have HR:=Am (show strOfNums ((bytesOf a0).map impl_smallLetters.lo) = r by
  unfold impl_smallLetters.f at h
  rw [if_pos hs] at h
  exact Option.some.inj h)
 clear h
 obtain ⟨W0,cap,hcv,HW⟩:∃ W0 cap,(convert 9 22 (.string a0)).run Tryd.prog w = .ok (.slice (some ⟨w.heap.size,0,none⟩) a0.size cap) W0 ∧ Aside0 (impl_smallLetters.Row w W0 5 (impl_smallLetters.upto (bytesOf a0) 0)):=by
  refine ⟨_,_,Lib.run_convert_string_bytes w 9 22 5 a0 Tryd.underlying9 Tryd.underlying22 Tryd.underlying5,⟨?_⟩⟩
  have:=impl_smallLetters.Row.new w 5 a0
  simpa [impl_smallLetters.upto] using this
 go_enter Tryd.func66,Tryd.ntmps66
 go_wp2
 go_loopw [10] (fun v wr=>∃ k:Nat,k ≤ a0.size ∧ v = .int .i64 k ∧ Aside0 (impl_smallLetters.Row w wr 5 (impl_smallLetters.upto (bytesOf a0) k))) (fun v _=>a0.size - (intOf v).toNat)
 case atStart=>exact ⟨0,Nat.zero_le _,rfl,HW⟩
 case round =>
  clear hcv HW
  obtain ⟨k,hk,rfl,HK⟩:=hrel
  by_cases hlt:k < a0.size
  ·have HL:=Am (bytesOf_length a0)
   have hbd:=impl_smallLetters.byte_bd a0 k
   have hc:=HK.out.cell (j:=k) (by rw [impl_smallLetters.upto_length,HL.out];exact hlt)
   rw [impl_smallLetters.upto_at _ k (by rw [HL.out];exact hlt)] at hc
   have hf:=HK.out.free (j:=k) (by rw [impl_smallLetters.upto_length,HL.out];exact hlt)
   generalize hx:(bytesOf a0).getD k 0 = x at hc hbd
   have HX:=Am hx
   clear hx
   by_cases h1:65 ≤ x
   ·by_cases h2:x ≤ 90
    ·have HN:=Am (HK.out.set k (x + 32))
     go_wp2
     go_roundw
     case rel=>exact ⟨k + 1,by omega,by go_num,⟨by
      rw [impl_smallLetters.upto_succ _ k (by rw [HL.out];exact hlt),HX.out,show impl_smallLetters.lo x = x + 32 by unfold impl_smallLetters.lo;rw [if_pos ⟨h1,h2⟩]]
      exact HN.out⟩⟩
     case measure=>simp [intOf];omega
    ·go_wp2
     go_roundw
     case rel=>exact ⟨k + 1,by omega,by go_num,⟨by
      rw [impl_smallLetters.upto_same _ k (by rw [HL.out];exact hlt) (by rw [HX.out];omega)]
      exact HK.out⟩⟩
     case measure=>simp [intOf];omega
   ·go_wp2
    go_roundw
    case rel=>exact ⟨k + 1,by omega,by go_num,⟨by
     rw [impl_smallLetters.upto_same _ k (by rw [HL.out];exact hlt) (by rw [HX.out];omega)]
     exact HK.out⟩⟩
    case measure=>simp [intOf];omega
  ·obtain rfl:k = a0.size:=by omega
   have HL:=Am (bytesOf_length a0)
   have hcb:(convert 22 9 (.slice (some ⟨w.heap.size,0,none⟩) a0.size cap)).run Tryd.prog wr = .ok (.string r) wr:=by
    have e:impl_smallLetters.upto (bytesOf a0) a0.size = (bytesOf a0).map impl_smallLetters.lo:=by
     rw [← HL.out];exact impl_smallLetters.upto_all _
    have h:=HK.out
    rw [e] at h
    have hl:((bytesOf a0).map impl_smallLetters.lo).length = a0.size:=by rw [List.length_map,HL.out]
    have hr:=h.reads (by omega)
    rw [hl] at hr
    rw [← HR.out]
    exact string_of_reads Tryd.underlying22 Tryd.underlying5 Tryd.underlying9 hr
   have HB:=Am HK.out.1
   go_wp2
   go_ret
   exact ⟨rfl,HB.out⟩

/-! ### impl_readWhole: function 38 -/
def impl_readWhole.f (k:Nat) (a0:ByteArray):Option (ByteArray × List ByteArray × Bool × ByteArray × Bool):=(strings_CutPrefix.f a0 (⟨#[47,47]⟩:ByteArray)).bind fun bt482=>(if bt482.2 = true then ((strings_IndexAny.f bt482.1 (⟨#[47,63]⟩:ByteArray)).bind fun t484=>(if t484 < 0 then (if 0 ≤ (bt482.1.size:Int) then (if (bt482.1.size:Int) ≤ (bt482.1.size:Int) then ((impl_smallLetters.f (bt482.1.extract 0 ((bt482.1.size:Int):Int).toNat)).bind fun t485=>((impl_readWay.f k t485 ([]:List ByteArray) (bt482.1.extract ((bt482.1.size:Int):Int).toNat bt482.1.size)).bind fun bt486=>(some (bt486.1,bt486.2.1,bt486.2.2.1,bt486.2.2.2.1,bt486.2.2.2.2)))) else (none)) else (none)) else (if 0 ≤ t484 then (if t484 ≤ (bt482.1.size:Int) then ((impl_smallLetters.f (bt482.1.extract 0 (t484:Int).toNat)).bind fun t493=>((impl_readWay.f k t493 ([]:List ByteArray) (bt482.1.extract (t484:Int).toNat bt482.1.size)).bind fun bt494=>(some (bt494.1,bt494.2.1,bt494.2.2.1,bt494.2.2.2.1,bt494.2.2.2.2)))) else (none)) else (none)))) else (some ((⟨#[]⟩:ByteArray),([]:List ByteArray),false,(⟨#[]⟩:ByteArray),false)))
theorem impl_readWhole.mono:∀ a0 k,LeO (impl_readWhole.f k a0) (impl_readWhole.f (k + 1) a0):=by
 intro a0 k
 unfold impl_readWhole.f
 repeat' first
   | (with_reducible apply impl_readWay.mono)
   | (with_reducible exact LeO.refl _)
   | (with_reducible exact LeO.none _)
   | (with_reducible refine LeO.ite ?_ ?_)
   | (with_reducible refine LeO.bind ?_ (fun _=>?_))




def impl_readWhole.T7:Bool × List (List Nat × List Nat):=(true,[([],[]),([],[]),([0,1],[0,1]),([2],[2]),([],[]),([],[]),([4,5],[4,5]),([3,6,3],[3,6]),([7],[7]),([7],[7]),([8,7,0,1,2,3,4,5,6,7,8,9],[8]),([9,10,0,1,2,3,4,5,6,7,8,9,10],[9])])
def impl_readWhole.B7:List Nat:=[0,0,3,7,0,0,48,127,255,255,1023,2047]
theorem impl_readWhole.tab7:rtab .any (opsOf Tryd.f38 7) = impl_readWhole.T7:=by kernel_rfl
theorem impl_readWhole.bits7:waitsOk impl_readWhole.T7.2 impl_readWhole.B7 = true:=by kernel_rfl
theorem impl_readWhole.calls (k:Nat) (a0:ByteArray) (r1:ByteArray) (r2:List ByteArray) (r3:Bool) (r4:ByteArray) (r5:Bool) (w:World) (h:impl_readWhole.f k a0 = some (r1,r2,r3,r4,r5)) :
  Calls Tryd.prog 38 #[.string a0] w fun e w'=>∃ v1_:Value,e = .returned (.tuple #[.agg #[.string r1,v1_, .bool r3, .string r4], .bool r5]) ∧ Kd.R Kd.string 9 w' w.heap.size (fun _=>True) v1_ r2 ∧ Below w.heap.size w w':=by
 have hu25:=Tryd.underlying25
 have HB:=Am (Below.refl w.heap.size w)
 have H:((strings_CutPrefix.f a0 (⟨#[47,47]⟩:ByteArray)).bind fun bt482=>(if bt482.2 = true then ((strings_IndexAny.f bt482.1 (⟨#[47,63]⟩:ByteArray)).bind fun t484=>(if t484 < 0 then (if 0 ≤ (bt482.1.size:Int) then (if (bt482.1.size:Int) ≤ (bt482.1.size:Int) then ((impl_smallLetters.f (bt482.1.extract 0 ((bt482.1.size:Int):Int).toNat)).bind fun t485=>((impl_readWay.f k t485 ([]:List ByteArray) (bt482.1.extract ((bt482.1.size:Int):Int).toNat bt482.1.size)).bind fun bt486=>(some (bt486.1,bt486.2.1,bt486.2.2.1,bt486.2.2.2.1,bt486.2.2.2.2)))) else (none)) else (none)) else (if 0 ≤ t484 then (if t484 ≤ (bt482.1.size:Int) then ((impl_smallLetters.f (bt482.1.extract 0 (t484:Int).toNat)).bind fun t493=>((impl_readWay.f k t493 ([]:List ByteArray) (bt482.1.extract (t484:Int).toNat bt482.1.size)).bind fun bt494=>(some (bt494.1,bt494.2.1,bt494.2.2.1,bt494.2.2.2.1,bt494.2.2.2.2)))) else (none)) else (none)))) else (some ((⟨#[]⟩:ByteArray),([]:List ByteArray),false,(⟨#[]⟩:ByteArray),false)))) = some (r1,r2,r3,r4,r5):=h
 clear h
 replace H:=bI H
 obtain ⟨⟨t482,t483⟩,A20,H⟩:=H
 replace H:(if t483 = true then ((strings_IndexAny.f t482 (⟨#[47,63]⟩:ByteArray)).bind fun t484=>(if t484 < 0 then (if 0 ≤ (t482.size:Int) then (if (t482.size:Int) ≤ (t482.size:Int) then ((impl_smallLetters.f (t482.extract 0 ((t482.size:Int):Int).toNat)).bind fun t485=>((impl_readWay.f k t485 ([]:List ByteArray) (t482.extract ((t482.size:Int):Int).toNat t482.size)).bind fun bt486=>(some (bt486.1,bt486.2.1,bt486.2.2.1,bt486.2.2.2.1,bt486.2.2.2.2)))) else (none)) else (none)) else (if 0 ≤ t484 then (if t484 ≤ (t482.size:Int) then ((impl_smallLetters.f (t482.extract 0 (t484:Int).toNat)).bind fun t493=>((impl_readWay.f k t493 ([]:List ByteArray) (t482.extract (t484:Int).toNat t482.size)).bind fun bt494=>(some (bt494.1,bt494.2.1,bt494.2.2.1,bt494.2.2.2.1,bt494.2.2.2.2)))) else (none)) else (none)))) else (some ((⟨#[]⟩:ByteArray),([]:List ByteArray),false,(⟨#[]⟩:ByteArray),false))) = some (r1,r2,r3,r4,r5):=H
 have A2:=Am A20
 clear A20
 by_cases c3:t483 = true
 ·subst c3
  have H1:((strings_IndexAny.f t482 (⟨#[47,63]⟩:ByteArray)).bind fun t484=>(if t484 < 0 then (if 0 ≤ (t482.size:Int) then (if (t482.size:Int) ≤ (t482.size:Int) then ((impl_smallLetters.f (t482.extract 0 ((t482.size:Int):Int).toNat)).bind fun t485=>((impl_readWay.f k t485 ([]:List ByteArray) (t482.extract ((t482.size:Int):Int).toNat t482.size)).bind fun bt486=>(some (bt486.1,bt486.2.1,bt486.2.2.1,bt486.2.2.2.1,bt486.2.2.2.2)))) else (none)) else (none)) else (if 0 ≤ t484 then (if t484 ≤ (t482.size:Int) then ((impl_smallLetters.f (t482.extract 0 (t484:Int).toNat)).bind fun t493=>((impl_readWay.f k t493 ([]:List ByteArray) (t482.extract (t484:Int).toNat t482.size)).bind fun bt494=>(some (bt494.1,bt494.2.1,bt494.2.2.1,bt494.2.2.2.1,bt494.2.2.2.2)))) else (none)) else (none)))) = some (r1,r2,r3,r4,r5):=by rw [if_pos rfl] at H;exact H
  clear H
  have H:=H1
  clear H1
  replace H:=bI H
  obtain ⟨t484,A40,H⟩:=H
  replace H:(if t484 < 0 then (if 0 ≤ (t482.size:Int) then (if (t482.size:Int) ≤ (t482.size:Int) then ((impl_smallLetters.f (t482.extract 0 ((t482.size:Int):Int).toNat)).bind fun t485=>((impl_readWay.f k t485 ([]:List ByteArray) (t482.extract ((t482.size:Int):Int).toNat t482.size)).bind fun bt486=>(some (bt486.1,bt486.2.1,bt486.2.2.1,bt486.2.2.2.1,bt486.2.2.2.2)))) else (none)) else (none)) else (if 0 ≤ t484 then (if t484 ≤ (t482.size:Int) then ((impl_smallLetters.f (t482.extract 0 (t484:Int).toNat)).bind fun t493=>((impl_readWay.f k t493 ([]:List ByteArray) (t482.extract (t484:Int).toNat t482.size)).bind fun bt494=>(some (bt494.1,bt494.2.1,bt494.2.2.1,bt494.2.2.2.1,bt494.2.2.2.2)))) else (none)) else (none))) = some (r1,r2,r3,r4,r5):=H
  have A4:=Am A40
  clear A40
  by_cases c5:t484 < 0
  ·rw [if_pos c5] at H
   have c5b0:decide (t484 < 0) = true:=decide_eq_true c5
   clear c5
   by_cases c6:0 ≤ (t482.size:Int)
   ·rw [if_pos c6] at H
    have c6b0:=eq_true c6
    have c6b1:=decide_eq_true c6
    clear c6
    by_cases c7:(t482.size:Int) ≤ (t482.size:Int)
    ·rw [if_pos c7] at H
     have c7b0:=eq_true c7
     have c7b1:=decide_eq_true c7
     clear c7
     replace H:=bI H
     obtain ⟨t485,A80,H⟩:=H
     replace H:((impl_readWay.f k t485 ([]:List ByteArray) (t482.extract ((t482.size:Int):Int).toNat t482.size)).bind fun bt486=>(some (bt486.1,bt486.2.1,bt486.2.2.1,bt486.2.2.2.1,bt486.2.2.2.2))) = some (r1,r2,r3,r4,r5):=H
     have A8:=Am A80
     clear A80
     have c9b0:=eq_true (oD (by assumption):0 ≤ (t482.size:Int))
     have c10b0:=eq_true (oD (by assumption):(t482.size:Int) ≤ (t482.size:Int))
     replace H:=bI H
     obtain ⟨⟨t486,t487,t490,t491,t492⟩,A110,H⟩:=H
     replace H:(some (t486,t487,t490,t491,t492)) = some (r1,r2,r3,r4,r5):=H
     have A11:=Am A110
     clear A110
     simp only [Option.some.injEq,Prod.mk.injEq] at H
     obtain ⟨rfl,rfl,rfl,rfl,rfl⟩:=H
     go_enter Tryd.func38,Tryd.ntmps38
     try go_wp2_with (first|((with_reducible refine gate_dst (N:=2) rfl ?_);refine box_event ?hg (N:=2) ?hd (cs:=#[.string (⟨#[]⟩:ByteArray), .slice none 0 0, .bool false, .string (⟨#[]⟩:ByteArray)]) (t:=25) ?hr ?_;(case hd=>rfl);(case hg=>rfl);(case hr=>(go_simp <;> rfl));intro gb481 hg w12 hbox hb;have n0_:=Am (bT (by repeat (first|(with_reducible first|exact HB.out|apply bA|apply bN|apply bD)|exact HB.out)) hb);have n1_:=Am (hbox);have n2_:=Am ((by rw [hg];exact (bU (by repeat (first|(with_reducible first|exact HB.out|apply bA|apply bN|apply bD)|exact HB.out))):w.heap.size ≤ gb481));have n3_:=n2_;clear HB;have HB:=n0_;have BK481:=n1_;have GW481:=n2_;have GE481:=n3_;clear n0_ n1_ n2_ n3_ hb hbox hg)|((with_reducible refine gate_callee (f:=64) rfl ?_);refine goesL_ (some 9) rfl rfl Tryd.func64 (by kernel_rfl) rfl #[.string a0, .string (⟨#[47,47]⟩:ByteArray)] rfl (by (try simp only [List.map_toArray,List.map_cons,List.map_nil]);first|done|rfl|(simp only [List.length_drop,List.length_take];rfl)|(simp [Act.eval,Array.getD_eq_getD_getElem?];done)) ?_;(with_reducible refine (strings_CutPrefix.calls a0 (⟨#[47,47]⟩:ByteArray) t482 true _ A2.out).mono ?_);rintro e w' ⟨rfl,⟨nd,rfl⟩⟩;refine ⟨_,rfl,?_⟩;(try (rw [drewN_self w12];generalize hq_:World.drewN w12 _ = w12;have n0_:Aside0 (w12.heap[gb481]? = some (.cells #[.string (⟨#[]⟩:ByteArray), .slice none 0 0, .bool false, .string (⟨#[]⟩:ByteArray)] 25 (0,0))):=⟨by rw [← hq_];exact (bB BK481.out)⟩;have n1_:Aside0 (Below w.heap.size w w12):=⟨by rw [← hq_];exact (by repeat (first|(with_reducible first|exact HB.out|apply bA|apply bN|apply bD|refine bS ?_ GE481.out)|exact HB.out))⟩;clear BK481 HB hq_;have BK481:=n0_;have HB:=n1_;clear n0_ n1_)))|((with_reducible refine gate_callee (f:=65) rfl ?_);refine goesL_ (some 16) rfl rfl Tryd.func65 (by kernel_rfl) rfl #[.string t482, .string (⟨#[47,63]⟩:ByteArray)] rfl (by (try simp only [List.map_toArray,List.map_cons,List.map_nil]);first|done|rfl|(simp only [List.length_drop,List.length_take];rfl)|(simp [Act.eval,Array.getD_eq_getD_getElem?];done)) ?_;(with_reducible refine (strings_IndexAny.calls t482 (⟨#[47,63]⟩:ByteArray) t484 _ A4.out).mono ?_);rintro e w13 ⟨rfl,hb⟩;refine ⟨_,rfl,?_⟩;have n0_:=Am (blk_below (bB BK481.out) hb);have n1_:=Am (bT (by repeat (first|(with_reducible first|exact HB.out|apply bA|apply bN|apply bD|refine bS ?_ GE481.out)|exact HB.out)) hb);clear BK481 HB;have BK481:=n0_;have HB:=n1_;clear n0_ n1_;(try clear hb)))
     have n0_:=Am (blk_drew BK481.out)
     have n1_:=Am (below_drew1 HB.out)
     clear BK481
     clear HB
     have BK481:=n0_
     have HB:=n1_
     clear n0_ n1_
     refine start_ (n:=12) (S:=fun w'=>True) (ds:=[]) #[false,false,false,false,false,false,false,false,false,false,false,false] (by kernel_rfl) rfl rfl trivial (fun hHeld=>?_);refine with_tabW impl_readWhole.tab7 impl_readWhole.bits7 (fun HT_ HW_=>?_)
     generalize w13.drew = w14 at BK481 HB hHeld ⊢
     refine pure_ (i:=0) (N:=some 21) (v:=?_) (a':=?_) #[true,false,false,false,false,false,false,false,false,false,false,false] rfl rfl (any_of HT_.out (by kernel_rfl)) (fun _ _ _ h=>h) (Or.inl ⟨by rfl,?_⟩) ?_ ?_
     rotate_left
     ·intro w'
      go_simp
      with_reducible rfl
     rotate_left
     ·simp only [Act.put,lT,lZ,lS,i64_w,i32_w]
      rfl
     refine pure_ (i:=1) (N:=some 22) (v:=?_) (a':=?_) #[true,true,false,false,false,false,false,false,false,false,false,false] rfl rfl (any_of HT_.out (by kernel_rfl)) (fun _ _ _ h=>h) (Or.inl ⟨by rfl,?_⟩) ?_ ?_
     rotate_left
     ·intro w'
      go_simp
      with_reducible rfl
     rotate_left
     ·simp only [Act.put,lT,lZ,lS,i64_w,i32_w]
      rfl
     refine pure_ (i:=2) (N:=some 23) (v:=?_) (a':=?_) #[true,true,true,false,false,false,false,false,false,false,false,false] rfl rfl (any_of HT_.out (by kernel_rfl)) (fun _ _ _ h=>h) (Or.inl ⟨by rfl,?_⟩) ?_ ?_
     rotate_left
     ·intro w'
      go_simp
      with_reducible rfl
     rotate_left
     ·simp only [Act.put,lT,lZ,lS,i64_w,i32_w]
      rfl
     refine pure_ (i:=4) (N:=some 25) (v:=?_) (a':=?_) #[true,true,true,false,true,false,false,false,false,false,false,false] rfl rfl (any_of HT_.out (by kernel_rfl)) (fun _ _ _ h=>h) (Or.inl ⟨by rfl,?_⟩) ?_ ?_
     rotate_left
     ·intro w'
      go_simp
      with_reducible rfl
     rotate_left
     ·simp only [Act.put,lT,lZ,lS,i64_w,i32_w]
      rfl
     refine pure_ (i:=5) (N:=some 26) (v:=?_) (a':=?_) #[true,true,true,false,true,true,false,false,false,false,false,false] rfl rfl (any_of HT_.out (by kernel_rfl)) (fun _ _ _ h=>h) (Or.inl ⟨by rfl,?_⟩) ?_ ?_
     rotate_left
     ·intro w'
      go_simp
      with_reducible rfl
     rotate_left
     ·simp only [Act.put,lT,lZ,lS,i64_w,i32_w]
      rfl
     refine pure_ (i:=6) (N:=some 27) (v:=?_) (a':=?_) #[true,true,true,false,true,true,true,false,false,false,false,false] rfl rfl (any_of HT_.out (by kernel_rfl)) (fun _ _ _ h=>h) (Or.inl ⟨by rfl,?_⟩) ?_ ?_
     rotate_left
     ·intro w'
      go_simp
      with_reducible rfl
     rotate_left
     ·simp only [Act.put,lT,lZ,lS,i64_w,i32_w]
      rfl
     refine one_ (i:=3) (N:=some 24) #[true,true,true,true,true,true,true,false,false,false,false,false] rfl rfl (one_of HT_.out (by kernel_rfl)) (by decide) (fun K hK=>?_)
     refine goes_ Tryd.func66 (by kernel_rfl) rfl #[.string (t482.extract 0 ((t482.size:Int):Int).toNat)] (by rfl) rfl rfl (by (try simp only [List.map_toArray,List.map_cons,List.map_nil]);first|done|rfl|(simp only [List.length_drop,List.length_take];rfl)|(simp [Act.eval,Array.getD_eq_getD_getElem?];done)) ?_
     with_reducible refine (impl_smallLetters.calls (t482.extract 0 ((t482.size:Int):Int).toNat) t485 _ A8.out).mono ?_
     rintro e w15 ⟨rfl,hb⟩
     refine ⟨_,rfl,?_⟩
     have n0_:=Am (blk_below (bB BK481.out) hb)
     have n1_:=Am (bT (by repeat (first|(with_reducible first|exact HB.out|apply bA|apply bN|apply bD|refine bS ?_ GE481.out)|exact HB.out)) hb)
     clear BK481
     clear HB
     have BK481:=n0_
     have HB:=n1_
     clear n0_ n1_
     (try clear hb)
     (try clear hb2)
     (try clear hk)
     (try clear hi)
     refine hK.out _ _ trivial (fun hHeld=>?_)
     clear hK K
     refine norm_ (a':=?_) ?_ ?_
     rotate_left
     ·show Act.put _ (some 24) _ = _
      simp only [Act.put,lT,lZ,lS,i64_w,i32_w]
      rfl
     refine one_ (i:=7) (N:=some 28) #[true,true,true,true,true,true,true,true,false,false,false,false] rfl rfl (one_of HT_.out (by kernel_rfl)) (by decide) (fun K hK=>?_)
     refine goes_ Tryd.func40 (by kernel_rfl) rfl #[.string t485, .slice none 0 0, .string (t482.extract ((t482.size:Int):Int).toNat t482.size)] (by rfl) rfl rfl (by (try simp only [List.map_toArray,List.map_cons,List.map_nil]);first|done|rfl|(simp only [List.length_drop,List.length_take];rfl)|(simp [Act.eval,Array.getD_eq_getD_getElem?];done)) ?_
     refine (impl_readWay.calls k t485 _ _ ([]:List ByteArray) (t482.extract ((t482.size:Int):Int).toNat t482.size) t486 t487 t490 t491 t492 _ ?side1 ?side2 A11.out).mono ?_
     (case side1=>exact Kd.C_nil _ _)
     (case side2=>exact Nat.le_refl _)
     rintro e w16 ⟨v488,rfl,ho0,hb⟩
     refine ⟨_,rfl,?_⟩
     have n0_:=Am (Kd.R_lower ho0 (bU (by repeat (first|(with_reducible first|exact HB.out|apply bA|apply bN|apply bD|refine bS ?_ GE481.out)|exact HB.out))))
     have n1_:=Am (blk_below (bB BK481.out) hb)
     have n2_:=Am (bT (by repeat (first|(with_reducible first|exact HB.out|apply bA|apply bN|apply bD|refine bS ?_ GE481.out)|exact HB.out)) hb)
     clear BK481
     clear HB
     have HO489:=n0_
     have BK481:=n1_
     have HB:=n2_
     clear n0_ n1_ n2_
     (try clear hb)
     (try clear hb2)
     (try clear hk)
     (try clear hi)
     (try clear ho0)
     obtain ⟨Ao18,co18,eo18⟩:=Kd.R_slice HO489.out
     (first|subst eo18|(injection eo18 with f1_ f2_ f3_;have f4_:=f1_.symm;have f5_:=f3_.symm;clear f1_ f2_ f3_;subst f4_;subst f5_))
     refine hK.out _ _ trivial (fun hHeld=>?_)
     clear hK K
     refine norm_ (a':=?_) ?_ ?_
     rotate_left
     ·show Act.put _ (some 28) _ = _
      simp only [Act.put,lT,lZ,lS,i64_w,i32_w]
      rfl
     refine pure_ (i:=8) (N:=some 29) (v:=?_) (a':=?_) #[true,true,true,true,true,true,true,true,true,false,false,false] rfl rfl (any_of HT_.out (by kernel_rfl)) (fun _ _ _ h=>h) (Or.inl ⟨by rfl,?_⟩) ?_ ?_
     rotate_left
     ·intro w'
      go_simp
      with_reducible rfl
     rotate_left
     ·simp only [Act.put,lT,lZ,lS,i64_w,i32_w]
      rfl
     refine pure_ (i:=9) (N:=some 30) (v:=?_) (a':=?_) #[true,true,true,true,true,true,true,true,true,true,false,false] rfl rfl (any_of HT_.out (by kernel_rfl)) (fun _ _ _ h=>h) (Or.inl ⟨by rfl,?_⟩) ?_ ?_
     rotate_left
     ·intro w'
      go_simp
      with_reducible rfl
     rotate_left
     ·simp only [Act.put,lT,lZ,lS,i64_w,i32_w]
      rfl
     refine one_ (i:=10) (N:=none) #[true,true,true,true,true,true,true,true,true,true,true,false] rfl rfl (one_of HT_.out (by kernel_rfl)) (by decide) (fun K hK=>?_)
     have hs17:w16.cell? ⟨gb481,0,none⟩ = some (.string (⟨#[]⟩:ByteArray)):=bM BK481.out 0 rfl
     have hfs17:=bZ BK481.out 0
     have hs19:w16.cell? ⟨gb481,1,none⟩ = some (.slice none 0 0):=bM BK481.out 1 rfl
     have hfs19:=bZ BK481.out 1
     have hs20:w16.cell? ⟨gb481,2,none⟩ = some (.bool false):=bM BK481.out 2 rfl
     have hfs20:=bZ BK481.out 2
     have hs21:w16.cell? ⟨gb481,3,none⟩ = some (.string (⟨#[]⟩:ByteArray)):=bM BK481.out 3 rfl
     have hfs21:=bZ BK481.out 3
     refine skip_ (w1:=?_) (by rfl) rfl ?_ ?_
     rotate_left
     ·go_simp
      rfl
     refine hK.out _ _ trivial (fun hHeld=>?_)
     clear hK K
     refine pure_ (i:=11) (N:=some 3) (v:=?_) (a':=?_) #[true,true,true,true,true,true,true,true,true,true,true,true] rfl rfl (any_of HT_.out (by kernel_rfl)) (fun _ _ _ h=>h) (Or.inl ⟨by rfl,?_⟩) ?_ ?_
     rotate_left
     ·intro w'
      go_simp
      with_reducible rfl
     rotate_left
     ·simp only [Act.put,lT,lZ,lS,i64_w,i32_w]
      rfl
     refine done_ (done_of HT_.out (by kernel_rfl)) ?_
     try go_wp2
     refine bodyPost_ret (results_ct rfl _ _ gb481 25 #[.string t486, .slice Ao18 t487.length co18, .bool t490, .string t491] (0,0) _ rfl (by refine bB ?_;apply bP;refine bB ?_;exact BK481.out) Tryd.underlying25 rfl (by kernel_rfl)) rfl ?_
     exact ⟨_,by first|rfl|(simp <;> rfl)|(simp [*] <;> rfl),by (with_reducible repeat (first|apply rA|apply rN|apply rD));exact Kd.R_mono (Kd.R_far (p:=⟨gb481,3,none⟩) (Kd.R_far (p:=⟨gb481,2,none⟩) (Kd.R_far (p:=⟨gb481,1,none⟩) (Kd.R_far (p:=⟨gb481,0,none⟩) (Kd.R_types HO489.out BK481.out (by decide)) (fun _ hk=>hk.2) (.string t486)) (fun _ hk=>hk.2) (.slice Ao18 t487.length co18)) (fun _ hk=>hk.2) (.bool t490)) (fun _ hk=>hk.2) (.string t491)) (fun _ hk=>trivial),by repeat (first|(with_reducible first|exact HB.out|apply bA|apply bN|apply bD|refine bS ?_ GE481.out)|exact HB.out)⟩
    ·rw [if_neg c7] at H
     exact absurd H (by simp)
   ·rw [if_neg c6] at H
    exact absurd H (by simp)
  ·rw [if_neg c5] at H
   have c5b0:decide (t484 < 0) = false:=decide_eq_false c5
   clear c5
   by_cases c22:0 ≤ t484
   ·rw [if_pos c22] at H
    have c22b0:=eq_true c22
    have c22b1:=decide_eq_true c22
    clear c22
    by_cases c23:t484 ≤ (t482.size:Int)
    ·rw [if_pos c23] at H
     have c23b0:=eq_true c23
     have c23b1:=decide_eq_true c23
     clear c23
     replace H:=bI H
     obtain ⟨t493,A240,H⟩:=H
     replace H:((impl_readWay.f k t493 ([]:List ByteArray) (t482.extract (t484:Int).toNat t482.size)).bind fun bt494=>(some (bt494.1,bt494.2.1,bt494.2.2.1,bt494.2.2.2.1,bt494.2.2.2.2))) = some (r1,r2,r3,r4,r5):=H
     have A24:=Am A240
     clear A240
     have c25b0:=eq_true (oD (by assumption):0 ≤ t484)
     have c26b0:=eq_true (oD (by assumption):t484 ≤ (t482.size:Int))
     replace H:=bI H
     obtain ⟨⟨t494,t495,t498,t499,t500⟩,A270,H⟩:=H
     replace H:(some (t494,t495,t498,t499,t500)) = some (r1,r2,r3,r4,r5):=H
     have A27:=Am A270
     clear A270
     simp only [Option.some.injEq,Prod.mk.injEq] at H
     obtain ⟨rfl,rfl,rfl,rfl,rfl⟩:=H
     go_enter Tryd.func38,Tryd.ntmps38
     try go_wp2_with (first|((with_reducible refine gate_dst (N:=2) rfl ?_);refine box_event ?hg (N:=2) ?hd (cs:=#[.string (⟨#[]⟩:ByteArray), .slice none 0 0, .bool false, .string (⟨#[]⟩:ByteArray)]) (t:=25) ?hr ?_;(case hd=>rfl);(case hg=>rfl);(case hr=>(go_simp <;> rfl));intro gb481 hg w28 hbox hb;have n0_:=Am (bT (by repeat (first|(with_reducible first|exact HB.out|apply bA|apply bN|apply bD)|exact HB.out)) hb);have n1_:=Am (hbox);have n2_:=Am ((by rw [hg];exact (bU (by repeat (first|(with_reducible first|exact HB.out|apply bA|apply bN|apply bD)|exact HB.out))):w.heap.size ≤ gb481));have n3_:=n2_;clear HB;have HB:=n0_;have BK481:=n1_;have GW481:=n2_;have GE481:=n3_;clear n0_ n1_ n2_ n3_ hb hbox hg)|((with_reducible refine gate_callee (f:=64) rfl ?_);refine goesL_ (some 9) rfl rfl Tryd.func64 (by kernel_rfl) rfl #[.string a0, .string (⟨#[47,47]⟩:ByteArray)] rfl (by (try simp only [List.map_toArray,List.map_cons,List.map_nil]);first|done|rfl|(simp only [List.length_drop,List.length_take];rfl)|(simp [Act.eval,Array.getD_eq_getD_getElem?];done)) ?_;(with_reducible refine (strings_CutPrefix.calls a0 (⟨#[47,47]⟩:ByteArray) t482 true _ A2.out).mono ?_);rintro e w' ⟨rfl,⟨nd,rfl⟩⟩;refine ⟨_,rfl,?_⟩;(try (rw [drewN_self w28];generalize hq_:World.drewN w28 _ = w28;have n0_:Aside0 (w28.heap[gb481]? = some (.cells #[.string (⟨#[]⟩:ByteArray), .slice none 0 0, .bool false, .string (⟨#[]⟩:ByteArray)] 25 (0,0))):=⟨by rw [← hq_];exact (bB BK481.out)⟩;have n1_:Aside0 (Below w.heap.size w w28):=⟨by rw [← hq_];exact (by repeat (first|(with_reducible first|exact HB.out|apply bA|apply bN|apply bD|refine bS ?_ GE481.out)|exact HB.out))⟩;clear BK481 HB hq_;have BK481:=n0_;have HB:=n1_;clear n0_ n1_)))|((with_reducible refine gate_callee (f:=65) rfl ?_);refine goesL_ (some 16) rfl rfl Tryd.func65 (by kernel_rfl) rfl #[.string t482, .string (⟨#[47,63]⟩:ByteArray)] rfl (by (try simp only [List.map_toArray,List.map_cons,List.map_nil]);first|done|rfl|(simp only [List.length_drop,List.length_take];rfl)|(simp [Act.eval,Array.getD_eq_getD_getElem?];done)) ?_;(with_reducible refine (strings_IndexAny.calls t482 (⟨#[47,63]⟩:ByteArray) t484 _ A4.out).mono ?_);rintro e w29 ⟨rfl,hb⟩;refine ⟨_,rfl,?_⟩;have n0_:=Am (blk_below (bB BK481.out) hb);have n1_:=Am (bT (by repeat (first|(with_reducible first|exact HB.out|apply bA|apply bN|apply bD|refine bS ?_ GE481.out)|exact HB.out)) hb);clear BK481 HB;have BK481:=n0_;have HB:=n1_;clear n0_ n1_;(try clear hb)))
     have n0_:=Am (blk_drew BK481.out)
     have n1_:=Am (below_drew1 HB.out)
     clear BK481
     clear HB
     have BK481:=n0_
     have HB:=n1_
     clear n0_ n1_
     refine start_ (n:=12) (S:=fun w'=>True) (ds:=[]) #[false,false,false,false,false,false,false,false,false,false,false,false] (by kernel_rfl) rfl rfl trivial (fun hHeld=>?_);refine with_tabW impl_readWhole.tab7 impl_readWhole.bits7 (fun HT_ HW_=>?_)
     generalize w29.drew = w30 at BK481 HB hHeld ⊢
     refine pure_ (i:=0) (N:=some 21) (v:=?_) (a':=?_) #[true,false,false,false,false,false,false,false,false,false,false,false] rfl rfl (any_of HT_.out (by kernel_rfl)) (fun _ _ _ h=>h) (Or.inl ⟨by rfl,?_⟩) ?_ ?_
     rotate_left
     ·intro w'
      go_simp
      with_reducible rfl
     rotate_left
     ·simp only [Act.put,lT,lZ,lS,i64_w,i32_w]
      rfl
     refine pure_ (i:=1) (N:=some 22) (v:=?_) (a':=?_) #[true,true,false,false,false,false,false,false,false,false,false,false] rfl rfl (any_of HT_.out (by kernel_rfl)) (fun _ _ _ h=>h) (Or.inl ⟨by rfl,?_⟩) ?_ ?_
     rotate_left
     ·intro w'
      go_simp
      with_reducible rfl
     rotate_left
     ·simp only [Act.put,lT,lZ,lS,i64_w,i32_w]
      rfl
     refine pure_ (i:=2) (N:=some 23) (v:=?_) (a':=?_) #[true,true,true,false,false,false,false,false,false,false,false,false] rfl rfl (any_of HT_.out (by kernel_rfl)) (fun _ _ _ h=>h) (Or.inl ⟨by rfl,?_⟩) ?_ ?_
     rotate_left
     ·intro w'
      go_simp
      with_reducible rfl
     rotate_left
     ·simp only [Act.put,lT,lZ,lS,i64_w,i32_w]
      rfl
     refine pure_ (i:=4) (N:=some 25) (v:=?_) (a':=?_) #[true,true,true,false,true,false,false,false,false,false,false,false] rfl rfl (any_of HT_.out (by kernel_rfl)) (fun _ _ _ h=>h) (Or.inl ⟨by rfl,?_⟩) ?_ ?_
     rotate_left
     ·intro w'
      go_simp
      with_reducible rfl
     rotate_left
     ·simp only [Act.put,lT,lZ,lS,i64_w,i32_w]
      rfl
     refine pure_ (i:=5) (N:=some 26) (v:=?_) (a':=?_) #[true,true,true,false,true,true,false,false,false,false,false,false] rfl rfl (any_of HT_.out (by kernel_rfl)) (fun _ _ _ h=>h) (Or.inl ⟨by rfl,?_⟩) ?_ ?_
     rotate_left
     ·intro w'
      go_simp
      with_reducible rfl
     rotate_left
     ·simp only [Act.put,lT,lZ,lS,i64_w,i32_w]
      rfl
     refine pure_ (i:=6) (N:=some 27) (v:=?_) (a':=?_) #[true,true,true,false,true,true,true,false,false,false,false,false] rfl rfl (any_of HT_.out (by kernel_rfl)) (fun _ _ _ h=>h) (Or.inl ⟨by rfl,?_⟩) ?_ ?_
     rotate_left
     ·intro w'
      go_simp
      with_reducible rfl
     rotate_left
     ·simp only [Act.put,lT,lZ,lS,i64_w,i32_w]
      rfl
     refine one_ (i:=3) (N:=some 24) #[true,true,true,true,true,true,true,false,false,false,false,false] rfl rfl (one_of HT_.out (by kernel_rfl)) (by decide) (fun K hK=>?_)
     refine goes_ Tryd.func66 (by kernel_rfl) rfl #[.string (t482.extract 0 (t484:Int).toNat)] (by rfl) rfl rfl (by (try simp only [List.map_toArray,List.map_cons,List.map_nil]);first|done|rfl|(simp only [List.length_drop,List.length_take];rfl)|(simp [Act.eval,Array.getD_eq_getD_getElem?];done)) ?_
     with_reducible refine (impl_smallLetters.calls (t482.extract 0 (t484:Int).toNat) t493 _ A24.out).mono ?_
     rintro e w31 ⟨rfl,hb⟩
     refine ⟨_,rfl,?_⟩
     have n0_:=Am (blk_below (bB BK481.out) hb)
     have n1_:=Am (bT (by repeat (first|(with_reducible first|exact HB.out|apply bA|apply bN|apply bD|refine bS ?_ GE481.out)|exact HB.out)) hb)
     clear BK481
     clear HB
     have BK481:=n0_
     have HB:=n1_
     clear n0_ n1_
     (try clear hb)
     (try clear hb2)
     (try clear hk)
     (try clear hi)
     refine hK.out _ _ trivial (fun hHeld=>?_)
     clear hK K
     refine norm_ (a':=?_) ?_ ?_
     rotate_left
     ·show Act.put _ (some 24) _ = _
      simp only [Act.put,lT,lZ,lS,i64_w,i32_w]
      rfl
     refine one_ (i:=7) (N:=some 28) #[true,true,true,true,true,true,true,true,false,false,false,false] rfl rfl (one_of HT_.out (by kernel_rfl)) (by decide) (fun K hK=>?_)
     refine goes_ Tryd.func40 (by kernel_rfl) rfl #[.string t493, .slice none 0 0, .string (t482.extract (t484:Int).toNat t482.size)] (by rfl) rfl rfl (by (try simp only [List.map_toArray,List.map_cons,List.map_nil]);first|done|rfl|(simp only [List.length_drop,List.length_take];rfl)|(simp [Act.eval,Array.getD_eq_getD_getElem?];done)) ?_
     refine (impl_readWay.calls k t493 _ _ ([]:List ByteArray) (t482.extract (t484:Int).toNat t482.size) t494 t495 t498 t499 t500 _ ?side1 ?side2 A27.out).mono ?_
     (case side1=>exact Kd.C_nil _ _)
     (case side2=>exact Nat.le_refl _)
     rintro e w32 ⟨v496,rfl,ho0,hb⟩
     refine ⟨_,rfl,?_⟩
     have n0_:=Am (Kd.R_lower ho0 (bU (by repeat (first|(with_reducible first|exact HB.out|apply bA|apply bN|apply bD|refine bS ?_ GE481.out)|exact HB.out))))
     have n1_:=Am (blk_below (bB BK481.out) hb)
     have n2_:=Am (bT (by repeat (first|(with_reducible first|exact HB.out|apply bA|apply bN|apply bD|refine bS ?_ GE481.out)|exact HB.out)) hb)
     clear BK481
     clear HB
     have HO497:=n0_
     have BK481:=n1_
     have HB:=n2_
     clear n0_ n1_ n2_
     (try clear hb)
     (try clear hb2)
     (try clear hk)
     (try clear hi)
     (try clear ho0)
     obtain ⟨Ao34,co34,eo34⟩:=Kd.R_slice HO497.out
     (first|subst eo34|(injection eo34 with f1_ f2_ f3_;have f4_:=f1_.symm;have f5_:=f3_.symm;clear f1_ f2_ f3_;subst f4_;subst f5_))
     refine hK.out _ _ trivial (fun hHeld=>?_)
     clear hK K
     refine norm_ (a':=?_) ?_ ?_
     rotate_left
     ·show Act.put _ (some 28) _ = _
      simp only [Act.put,lT,lZ,lS,i64_w,i32_w]
      rfl
     refine pure_ (i:=8) (N:=some 29) (v:=?_) (a':=?_) #[true,true,true,true,true,true,true,true,true,false,false,false] rfl rfl (any_of HT_.out (by kernel_rfl)) (fun _ _ _ h=>h) (Or.inl ⟨by rfl,?_⟩) ?_ ?_
     rotate_left
     ·intro w'
      go_simp
      with_reducible rfl
     rotate_left
     ·simp only [Act.put,lT,lZ,lS,i64_w,i32_w]
      rfl
     refine pure_ (i:=9) (N:=some 30) (v:=?_) (a':=?_) #[true,true,true,true,true,true,true,true,true,true,false,false] rfl rfl (any_of HT_.out (by kernel_rfl)) (fun _ _ _ h=>h) (Or.inl ⟨by rfl,?_⟩) ?_ ?_
     rotate_left
     ·intro w'
      go_simp
      with_reducible rfl
     rotate_left
     ·simp only [Act.put,lT,lZ,lS,i64_w,i32_w]
      rfl
     refine one_ (i:=10) (N:=none) #[true,true,true,true,true,true,true,true,true,true,true,false] rfl rfl (one_of HT_.out (by kernel_rfl)) (by decide) (fun K hK=>?_)
     have hs33:w32.cell? ⟨gb481,0,none⟩ = some (.string (⟨#[]⟩:ByteArray)):=bM BK481.out 0 rfl
     have hfs33:=bZ BK481.out 0
     have hs35:w32.cell? ⟨gb481,1,none⟩ = some (.slice none 0 0):=bM BK481.out 1 rfl
     have hfs35:=bZ BK481.out 1
     have hs36:w32.cell? ⟨gb481,2,none⟩ = some (.bool false):=bM BK481.out 2 rfl
     have hfs36:=bZ BK481.out 2
     have hs37:w32.cell? ⟨gb481,3,none⟩ = some (.string (⟨#[]⟩:ByteArray)):=bM BK481.out 3 rfl
     have hfs37:=bZ BK481.out 3
     refine skip_ (w1:=?_) (by rfl) rfl ?_ ?_
     rotate_left
     ·go_simp
      rfl
     refine hK.out _ _ trivial (fun hHeld=>?_)
     clear hK K
     refine pure_ (i:=11) (N:=some 3) (v:=?_) (a':=?_) #[true,true,true,true,true,true,true,true,true,true,true,true] rfl rfl (any_of HT_.out (by kernel_rfl)) (fun _ _ _ h=>h) (Or.inl ⟨by rfl,?_⟩) ?_ ?_
     rotate_left
     ·intro w'
      go_simp
      with_reducible rfl
     rotate_left
     ·simp only [Act.put,lT,lZ,lS,i64_w,i32_w]
      rfl
     refine done_ (done_of HT_.out (by kernel_rfl)) ?_
     try go_wp2
     refine bodyPost_ret (results_ct rfl _ _ gb481 25 #[.string t494, .slice Ao34 t495.length co34, .bool t498, .string t499] (0,0) _ rfl (by refine bB ?_;apply bP;refine bB ?_;exact BK481.out) Tryd.underlying25 rfl (by kernel_rfl)) rfl ?_
     exact ⟨_,by first|rfl|(simp <;> rfl)|(simp [*] <;> rfl),by (with_reducible repeat (first|apply rA|apply rN|apply rD));exact Kd.R_mono (Kd.R_far (p:=⟨gb481,3,none⟩) (Kd.R_far (p:=⟨gb481,2,none⟩) (Kd.R_far (p:=⟨gb481,1,none⟩) (Kd.R_far (p:=⟨gb481,0,none⟩) (Kd.R_types HO497.out BK481.out (by decide)) (fun _ hk=>hk.2) (.string t494)) (fun _ hk=>hk.2) (.slice Ao34 t495.length co34)) (fun _ hk=>hk.2) (.bool t498)) (fun _ hk=>hk.2) (.string t499)) (fun _ hk=>trivial),by repeat (first|(with_reducible first|exact HB.out|apply bA|apply bN|apply bD|refine bS ?_ GE481.out)|exact HB.out)⟩
    ·rw [if_neg c23] at H
     exact absurd H (by simp)
   ·rw [if_neg c22] at H
    exact absurd H (by simp)
 ·replace c3:=Bool.eq_false_iff.mpr c3
  subst c3
  have H1:(some ((⟨#[]⟩:ByteArray),([]:List ByteArray),false,(⟨#[]⟩:ByteArray),false)) = some (r1,r2,r3,r4,r5):=by rw [if_neg (show ¬ (false = true) by decide)] at H;exact H
  clear H
  have H:=H1
  clear H1
  simp only [Option.some.injEq,Prod.mk.injEq] at H
  obtain ⟨rfl,rfl,rfl,rfl,rfl⟩:=H
  go_enter Tryd.func38,Tryd.ntmps38
  go_wp2_with (first|((with_reducible refine gate_dst (N:=2) rfl ?_);refine box_event ?hg (N:=2) ?hd (cs:=#[.string (⟨#[]⟩:ByteArray), .slice none 0 0, .bool false, .string (⟨#[]⟩:ByteArray)]) (t:=25) ?hr ?_;(case hd=>rfl);(case hg=>rfl);(case hr=>(go_simp <;> rfl));intro gb481 hg w38 hbox hb;have n0_:=Am (bT (by repeat (first|(with_reducible first|exact HB.out|apply bA|apply bN|apply bD)|exact HB.out)) hb);have n1_:=Am (hbox);have n2_:=Am ((by rw [hg];exact (bU (by repeat (first|(with_reducible first|exact HB.out|apply bA|apply bN|apply bD)|exact HB.out))):w.heap.size ≤ gb481));have n3_:=n2_;clear HB;have HB:=n0_;have BK481:=n1_;have GW481:=n2_;have GE481:=n3_;clear n0_ n1_ n2_ n3_ hb hbox hg)|((with_reducible refine gate_callee (f:=64) rfl ?_);refine goesL_ (some 9) rfl rfl Tryd.func64 (by kernel_rfl) rfl #[.string a0, .string (⟨#[47,47]⟩:ByteArray)] rfl (by (try simp only [List.map_toArray,List.map_cons,List.map_nil]);first|done|rfl|(simp only [List.length_drop,List.length_take];rfl)|(simp [Act.eval,Array.getD_eq_getD_getElem?];done)) ?_;(with_reducible refine (strings_CutPrefix.calls a0 (⟨#[47,47]⟩:ByteArray) t482 false _ A2.out).mono ?_);rintro e w' ⟨rfl,⟨nd,rfl⟩⟩;refine ⟨_,rfl,?_⟩;(try (rw [drewN_self w38];generalize hq_:World.drewN w38 _ = w38;have n0_:Aside0 (w38.heap[gb481]? = some (.cells #[.string (⟨#[]⟩:ByteArray), .slice none 0 0, .bool false, .string (⟨#[]⟩:ByteArray)] 25 (0,0))):=⟨by rw [← hq_];exact (bB BK481.out)⟩;have n1_:Aside0 (Below w.heap.size w w38):=⟨by rw [← hq_];exact (by repeat (first|(with_reducible first|exact HB.out|apply bA|apply bN|apply bD|refine bS ?_ GE481.out)|exact HB.out))⟩;clear BK481 HB hq_;have BK481:=n0_;have HB:=n1_;clear n0_ n1_));obtain ⟨hcz39_0,hcz39_1,hcz39_2,hcz39_3,hfz39_0,hfz39_1,hfz39_2,hfz39_3⟩:=bX BK481.out))
  refine bodyPost_ret (results_ct rfl _ _ gb481 25 #[.string (⟨#[]⟩:ByteArray), .slice none 0 0, .bool false, .string (⟨#[]⟩:ByteArray)] (0,0) _ rfl (by refine bB ?_;apply bP;refine bB ?_;exact BK481.out) Tryd.underlying25 rfl (by kernel_rfl)) rfl ?_
  exact ⟨_,by first|rfl|(simp <;> rfl)|(simp [*] <;> rfl),by first|exact Kd.R_nil _ _ _ _ _|exact Kd.N_nil _ _ _ _ _|exact Kd.V_nil _ _ _ _ _|exact Kd.Q_nil _ _ _ _ _|exact Kd.S_nil _ _ _ _ _,by repeat (first|(with_reducible first|exact HB.out|apply bA|apply bN|apply bD|refine bS ?_ GE481.out)|exact HB.out)⟩

end Go.Proofs.YtbnnamjaljohiaaDoor.P
