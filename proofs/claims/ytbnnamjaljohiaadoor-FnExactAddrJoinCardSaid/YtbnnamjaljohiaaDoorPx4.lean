-- Written by a program of this session (patch_print.py over the kit's print; given texts in wip/given).
-- Cut down by a program of this session (wip/tools/prune.py) to what its claim can name.
import Derived.Test.YtbnnamjaljohiaaDoorSq
import Derived.Test.YtbnnamjaljohiaaDoorPx0
import Derived.Test.YtbnnamjaljohiaaDoorPx3
namespace Go.Proofs.YtbnnamjaljohiaaDoor.P
open Go.RowKit Go.Proofs.YtbnnamjaljohiaaDoorW.PrintWords Go.Proofs.YtbnnamjaljohiaaDoorW.PrintLast Go.Proofs.YtbnnamjaljohiaaDoorW.PrintMore
attribute [local go_sem] max2_int min2_int max_two min_two max_three min_three max_four min_four   -- for this text's walks alone
set_option linter.unusedVariables false
set_option linter.unusedSimpArgs false
set_option maxHeartbeats 8000000
set_option maxRecDepth 100000

/-! ### impl_EscNorm: function 67 -/
def impl_EscNorm.l0:Nat → ByteArray → List Int → Int → Option (ByteArray × Bool)
 | 0,_,_,_=>none
 | k + 1,x0,x4,x5=>if x5 < (x0.size:Int) then (if 0 ≤ x5 then (if (bt x0 x5) = 37 then ((impl_signByte.f x0 x5).bind fun bt326=>(if bt326.2 = true then ((impl_standsForItself.f bt326.1).bind fun t328=>(if t328 = true then (if x4.length < 140737488355328 then (impl_EscNorm.l0 k x0 (x4 ++ [bt326.1]) (wrap64 ((wrap64 (x5 + 2)) + 1))) else (none)) else (if 0 ≤ (bt326.1 / 16) then (if (bt326.1 / 16) < 16 then (if 0 ≤ (Go.bits .and .u8 bt326.1 15) then (if (Go.bits .and .u8 bt326.1 15) < 16 then ((some (([37,bt (⟨#[48,49,50,51,52,53,54,55,56,57,65,66,67,68,69,70]⟩:ByteArray) (bt326.1 / 16),bt (⟨#[48,49,50,51,52,53,54,55,56,57,65,66,67,68,69,70]⟩:ByteArray) (Go.bits .and .u8 bt326.1 15)]:List Int):List Int)).bind fun y332=>(if x4.length + y332.length < 140737488355328 then (impl_EscNorm.l0 k x0 (x4 ++ y332) (wrap64 ((wrap64 (x5 + 2)) + 1))) else (none))) else (none)) else (none)) else (none)) else (none)))) else (some ((⟨#[]⟩:ByteArray),false)))) else ((impl_standsForItself.f (bt x0 x5)).bind fun t338=>(if t338 = true then (if x4.length < 140737488355328 then (impl_EscNorm.l0 k x0 (x4 ++ [bt x0 x5]) (wrap64 (x5 + 1))) else (none)) else (if 0 ≤ ((bt x0 x5) / 16) then (if ((bt x0 x5) / 16) < 16 then (if 0 ≤ (Go.bits .and .u8 (bt x0 x5) 15) then (if (Go.bits .and .u8 (bt x0 x5) 15) < 16 then ((some (([37,bt (⟨#[48,49,50,51,52,53,54,55,56,57,65,66,67,68,69,70]⟩:ByteArray) ((bt x0 x5) / 16),bt (⟨#[48,49,50,51,52,53,54,55,56,57,65,66,67,68,69,70]⟩:ByteArray) (Go.bits .and .u8 (bt x0 x5) 15)]:List Int):List Int)).bind fun y342=>(if x4.length + y342.length < 140737488355328 then (impl_EscNorm.l0 k x0 (x4 ++ y342) (wrap64 (x5 + 1))) else (none))) else (none)) else (none)) else (none)) else (none))))) else (none)) else (some (strOfNums x4,true))
def impl_EscNorm.f (k:Nat) (a0:ByteArray):Option (ByteArray × Bool):=if (a0.size:Int) > 60 then (some ((⟨#[]⟩:ByteArray),false)) else (impl_EscNorm.l0 k a0 ([]:List Int) 0)
theorem impl_EscNorm.mono_l:∀ k,(∀ y0 y1 y2,LeO (impl_EscNorm.l0 k y0 y1 y2) (impl_EscNorm.l0 (k + 1) y0 y1 y2))
 | 0=>fun _ _ _ r h=>by simp [impl_EscNorm.l0] at h
 | k + 1=>by
  have ih0:=impl_EscNorm.mono_l k
  ·intro y0 y1 y2
   unfold impl_EscNorm.l0
   repeat' first
   | (with_reducible apply ih0)
   | (with_reducible exact LeO.refl _)
   | (with_reducible exact LeO.none _)
   | (with_reducible refine LeO.ite ?_ ?_)
   | (with_reducible refine LeO.bind ?_ (fun _=>?_))
   | exact ih0 _ _ _
   | exact LeO.none _
   | refine LeO.ite ?_ ?_
   | refine LeO.bind ?_ (fun _=>?_)
theorem impl_EscNorm.mono:∀ a0 k,LeO (impl_EscNorm.f k a0) (impl_EscNorm.f (k + 1) a0):=by
 intro a0 k
 have ih0:=impl_EscNorm.mono_l k
 unfold impl_EscNorm.f
 repeat' first
   | (with_reducible apply ih0)
   | (with_reducible exact LeO.refl _)
   | (with_reducible exact LeO.none _)
   | (with_reducible refine LeO.ite ?_ ?_)
   | (with_reducible refine LeO.bind ?_ (fun _=>?_))
   | exact ih0 _ _ _
   | exact LeO.none _
   | refine LeO.ite ?_ ?_
   | refine LeO.bind ?_ (fun _=>?_)
def impl_EscNorm.T16:Bool × List (List Nat × List Nat):=(true,[([],[]),([],[]),([1],[1]),([2],[2]),([],[]),([4],[4]),([5],[5]),([3,6],[3,6]),([0,7],[0,7]),([8,8,0,1,2,3,4,5,6,7,8],[0,8])])
def impl_EscNorm.B16:List Nat:=[0,0,2,6,0,16,48,126,255,511]
theorem impl_EscNorm.tab16:rtab .any (opsOf Tryd.f67 16) = impl_EscNorm.T16:=by kernel_rfl
theorem impl_EscNorm.bits16:waitsOk impl_EscNorm.T16.2 impl_EscNorm.B16 = true:=by kernel_rfl
theorem impl_EscNorm.calls (k:Nat) (a0:ByteArray) (r1:ByteArray) (r2:Bool) (w:World) (h:impl_EscNorm.f k a0 = some (r1,r2)) :
  Calls Tryd.prog 67 #[.string a0] w fun e w'=>e = .returned (.tuple #[.string r1, .bool r2]) ∧ Below w.heap.size w w':=by
 have HB:=Am (Below.refl w.heap.size w)
 have H:(if (a0.size:Int) > 60 then (some ((⟨#[]⟩:ByteArray),false)) else (impl_EscNorm.l0 k a0 ([]:List Int) 0)) = some (r1,r2):=h
 clear h
 by_cases c2:(a0.size:Int) > 60
 ·rw [if_pos c2] at H
  have c2b0:decide (60 < (a0.size:Int)) = true:=decide_eq_true c2
  have c2b1:decide (60 < a0.size) = true:=decide_eq_true (by omega)
  clear c2
  simp only [Option.some.injEq,Prod.mk.injEq] at H
  obtain ⟨rfl,rfl⟩:=H
  go_enter Tryd.func67,Tryd.ntmps67
  go_wp2
  go_ret2
  exact ⟨by first|rfl|(simp <;> rfl)|(simp [*] <;> rfl),by repeat (first|(with_reducible first|exact HB.out|apply bA|apply bN|apply bD)|exact HB.out)⟩
 ·rw [if_neg c2] at H
  have c2b0:decide (60 < (a0.size:Int)) = false:=decide_eq_false c2
  have c2b1:decide (60 < a0.size) = false:=decide_eq_false (by omega)
  clear c2
  have H':=Am H
  clear H
  go_enter Tryd.func67,Tryd.ntmps67
  go_wp2
  go_loopg [4,5] k (fun kq v4 v5 w'=>∃ (x4_1:List Int) (x5_1:Int),v5 = .int .i64 x5_1 ∧ Aside0 (impl_EscNorm.l0 kq a0 x4_1 x5_1 = some (r1,r2)) ∧ Aside0 (kq ≤ k) ∧ Aside0 (Kd.R (Kd.int .u8) 5 w' w.heap.size (fun _=>True) v4 x4_1) ∧ Aside0 (Below w.heap.size w w'))
  case atStart=>exact ⟨(([]:List Int)),(0),(by first|rfl|(simp;done)|(simp only [i64_w,i32_w] <;> rfl)|(simp [*];done)|(simp [emp_bne,emp_beq];done)),H',⟨Nat.le_refl _⟩,⟨by first|exact Kd.R_nil _ _ _ _ _|exact Kd.N_nil _ _ _ _ _|exact Kd.V_nil _ _ _ _ _|exact Kd.Q_nil _ _ _ _ _|exact Kd.S_nil _ _ _ _ _⟩,⟨by repeat (first|(with_reducible first|exact HB.out|apply bA|apply bN|apply bD)|exact HB.out)⟩⟩
  case round =>
   clear H'
   try clear c2
   try clear c2b0
   try clear c2b1
   try clear p2
   obtain ⟨x4_1,x5_1,rfl,HA,HK1,HO_4,HB⟩:=hrel
   cases gk with
   | zero=>exact absurd HA.out (by simp [impl_EscNorm.l0])
   | succ k1 =>
    have H:=HA.out
    clear HA
    simp only [impl_EscNorm.l0] at H
    by_cases c3:x5_1 < (a0.size:Int)
    ·rw [if_pos c3] at H
     have c3b0:decide (x5_1 < (a0.size:Int)) = true:=decide_eq_true c3
     clear c3
     by_cases c4:0 ≤ x5_1
     ·rw [if_pos c4] at H
      have c4b0:decide (0 ≤ x5_1) = true:=decide_eq_true c4
      clear c4
      by_cases c6:(bt a0 x5_1) = 37
      ·rw [if_pos c6] at H
       have c6b0:((bt a0 x5_1) == 37) = true:=beq_iff_eq.mpr c6
       have c6b1:((bt a0 x5_1) != 37) = false:=bne_eq_false_iff_eq.mpr c6
       clear c6
       replace H:=bI H
       obtain ⟨⟨t326,t327⟩,A70,H⟩:=H
       replace H:(if t327 = true then ((impl_standsForItself.f t326).bind fun t328=>(if t328 = true then (if x4_1.length < 140737488355328 then (impl_EscNorm.l0 k1 a0 (x4_1 ++ [t326]) (wrap64 ((wrap64 (x5_1 + 2)) + 1))) else (none)) else (if 0 ≤ (t326 / 16) then (if (t326 / 16) < 16 then (if 0 ≤ (Go.bits .and .u8 t326 15) then (if (Go.bits .and .u8 t326 15) < 16 then ((some (([37,bt (⟨#[48,49,50,51,52,53,54,55,56,57,65,66,67,68,69,70]⟩:ByteArray) (t326 / 16),bt (⟨#[48,49,50,51,52,53,54,55,56,57,65,66,67,68,69,70]⟩:ByteArray) (Go.bits .and .u8 t326 15)]:List Int):List Int)).bind fun y332=>(if x4_1.length + y332.length < 140737488355328 then (impl_EscNorm.l0 k1 a0 (x4_1 ++ y332) (wrap64 ((wrap64 (x5_1 + 2)) + 1))) else (none))) else (none)) else (none)) else (none)) else (none)))) else (some ((⟨#[]⟩:ByteArray),false))) = some (r1,r2):=H
       have A7:=Am A70
       clear A70
       by_cases c8:t327 = true
       ·subst c8
        have H1:((impl_standsForItself.f t326).bind fun t328=>(if t328 = true then (if x4_1.length < 140737488355328 then (impl_EscNorm.l0 k1 a0 (x4_1 ++ [t326]) (wrap64 ((wrap64 (x5_1 + 2)) + 1))) else (none)) else (if 0 ≤ (t326 / 16) then (if (t326 / 16) < 16 then (if 0 ≤ (Go.bits .and .u8 t326 15) then (if (Go.bits .and .u8 t326 15) < 16 then ((some (([37,bt (⟨#[48,49,50,51,52,53,54,55,56,57,65,66,67,68,69,70]⟩:ByteArray) (t326 / 16),bt (⟨#[48,49,50,51,52,53,54,55,56,57,65,66,67,68,69,70]⟩:ByteArray) (Go.bits .and .u8 t326 15)]:List Int):List Int)).bind fun y332=>(if x4_1.length + y332.length < 140737488355328 then (impl_EscNorm.l0 k1 a0 (x4_1 ++ y332) (wrap64 ((wrap64 (x5_1 + 2)) + 1))) else (none))) else (none)) else (none)) else (none)) else (none)))) = some (r1,r2):=by rw [if_pos rfl] at H;exact H
        clear H
        have H:=H1
        clear H1
        replace H:=bI H
        obtain ⟨t328,A90,H⟩:=H
        replace H:(if t328 = true then (if x4_1.length < 140737488355328 then (impl_EscNorm.l0 k1 a0 (x4_1 ++ [t326]) (wrap64 ((wrap64 (x5_1 + 2)) + 1))) else (none)) else (if 0 ≤ (t326 / 16) then (if (t326 / 16) < 16 then (if 0 ≤ (Go.bits .and .u8 t326 15) then (if (Go.bits .and .u8 t326 15) < 16 then ((some (([37,bt (⟨#[48,49,50,51,52,53,54,55,56,57,65,66,67,68,69,70]⟩:ByteArray) (t326 / 16),bt (⟨#[48,49,50,51,52,53,54,55,56,57,65,66,67,68,69,70]⟩:ByteArray) (Go.bits .and .u8 t326 15)]:List Int):List Int)).bind fun y332=>(if x4_1.length + y332.length < 140737488355328 then (impl_EscNorm.l0 k1 a0 (x4_1 ++ y332) (wrap64 ((wrap64 (x5_1 + 2)) + 1))) else (none))) else (none)) else (none)) else (none)) else (none))) = some (r1,r2):=H
        have A9:=Am A90
        clear A90
        by_cases c10:t328 = true
        ·subst c10
         have H1:(if x4_1.length < 140737488355328 then (impl_EscNorm.l0 k1 a0 (x4_1 ++ [t326]) (wrap64 ((wrap64 (x5_1 + 2)) + 1))) else (none)) = some (r1,r2):=by rw [if_pos rfl] at H;exact H
         clear H
         have H:=H1
         clear H1
         by_cases c11:x4_1.length < 140737488355328
         ·rw [if_pos c11] at H
          have LMc11:=Am c11
          clear c11
          obtain ⟨y329,hy329⟩:∃ y_:List Int,y_ = (x4_1 ++ [t326]):=⟨_,rfl⟩
          replace H:(impl_EscNorm.l0 k1 a0 y329 (wrap64 ((wrap64 (x5_1 + 2)) + 1))) = some (r1,r2):=by first|(rw [hy329];with_reducible exact H)|(have H2_:=(Option.bind_some _ _).symm.trans H;rw [hy329];with_reducible exact H2_)|(have H2_:=(Option.bind_some _ _).symm.trans H;with_reducible exact H2_)|with_reducible exact H|(rw [hy329];exact H)|exact H
          have Ny329:=Am hy329
          clear hy329
          have H':=Am H
          clear H
          have p5:0 ≤ (x5_1:Int):=oD (by assumption)
          have q5:x5_1 < (a0.size:Int):=oD (by assumption)
          have hx5:=bt_at a0 x5_1
          replace p5:=eq_true p5
          replace q5:=eq_true q5
          go_wp2_with (first|((with_reducible refine gate_callee (f:=86) rfl ?_);refine goesL_ (some 26) rfl rfl Tryd.func86 (by kernel_rfl) rfl #[.string a0, .int .i64 x5_1] rfl (aE2 rfl rfl) ?_;(with_reducible refine (impl_signByte.calls a0 x5_1 t326 true _ A7.out).mono ?_);rintro e w12 ⟨rfl,hb⟩;refine ⟨_,rfl,?_⟩;have n0_:=Am (Kd.R_below (bR HO_4.out) hb);have n1_:=Am (bT (by repeat (first|(with_reducible first|exact HB.out|apply bA|apply bN|apply bD)|exact HB.out)) hb);clear HO_4 HB;have HO_4:=n0_;have HB:=n1_;clear n0_ n1_;(try clear hb))|((with_reducible refine gate_callee (f:=87) rfl ?_);refine goesL_ (some 35) rfl rfl Tryd.func87 (by kernel_rfl) rfl #[.int .u8 t326] rfl (aE1 rfl) ?_;(with_reducible refine (impl_standsForItself.calls t326 true _ A9.out).mono ?_);rintro e w' ⟨rfl,⟨nd,rfl⟩⟩;refine ⟨_,rfl,?_⟩)|((with_reducible refine gate_builtin (b:=.append) (xs:=#[.tmp 36, .tmp 38]) rfl ?_);at_builtin;refine Kd.R_append (Kd.int .u8) (w0:=w) w.heap.size rfl (.tmp 36) (.tmp 38) 22 5 (.int .u8 0) 1 rfl Tryd.underlying22 info5 rfl (by decide) (by omega) u4 x4_1 t326 [.int .u8 t326] (fun _=>True) (fun _=>False) rfl rfl ?aP (fun _ hk=>hk.elim) ?aF ?aO ?aB ?aS ?aL ?_;(case aP=>exact rfl);(case aB=>exact (by repeat (first|(with_reducible first|exact HB.out|apply bA|apply bN|apply bD)|exact HB.out)));(case aF=>exact (fun _ _=>trivial));(case aO=>exact (bR HO_4.out));(case aS=>exact (bU (by repeat (first|(with_reducible first|exact HB.out|apply bA|apply bN|apply bD)|exact HB.out))));(case aL=>have:=LMc11.out;omega);intro v330 w13 ho hb hg hat;rw [← Ny329.out] at ho;have n0_:=Am (hb);have n1_:=Am (ho);clear HB HO_4;have HB:=n0_;have HO331:=n1_;clear n0_ n1_ ho hb hg hat))
          go_roundg k1
          case measure=>have:=HK1.out;omega
          case rel=>exact ⟨(y329),(wrap64 ((wrap64 (x5_1 + 2)) + 1)),(by first|rfl|(simp;done)|(simp only [i64_w,i32_w] <;> rfl)|(simp [*];done)|(simp [emp_bne,emp_beq];done)),H',⟨by have:=HK1.out;omega⟩,⟨by (with_reducible repeat (first|apply rA|apply rN|apply rD));exact HO331.out⟩,⟨by repeat (first|(with_reducible first|exact HB.out|apply bA|apply bN|apply bD)|exact HB.out)⟩⟩
         ·rw [if_neg c11] at H
          exact absurd H (by simp)
        ·replace c10:=Bool.eq_false_iff.mpr c10
         subst c10
         have H1:(if 0 ≤ (t326 / 16) then (if (t326 / 16) < 16 then (if 0 ≤ (Go.bits .and .u8 t326 15) then (if (Go.bits .and .u8 t326 15) < 16 then ((some (([37,bt (⟨#[48,49,50,51,52,53,54,55,56,57,65,66,67,68,69,70]⟩:ByteArray) (t326 / 16),bt (⟨#[48,49,50,51,52,53,54,55,56,57,65,66,67,68,69,70]⟩:ByteArray) (Go.bits .and .u8 t326 15)]:List Int):List Int)).bind fun y332=>(if x4_1.length + y332.length < 140737488355328 then (impl_EscNorm.l0 k1 a0 (x4_1 ++ y332) (wrap64 ((wrap64 (x5_1 + 2)) + 1))) else (none))) else (none)) else (none)) else (none)) else (none)) = some (r1,r2):=by rw [if_neg (show ¬ (false = true) by decide)] at H;exact H
         clear H
         have H:=H1
         clear H1
         obtain ⟨ji14,hji14⟩:∃ j_:Int,(t326 / 16) = j_:=⟨_,rfl⟩
         replace H:(if 0 ≤ (ji14) then (if (ji14) < 16 then (if 0 ≤ (Go.bits .and .u8 t326 15) then (if (Go.bits .and .u8 t326 15) < 16 then ((some (([37,bt (⟨#[48,49,50,51,52,53,54,55,56,57,65,66,67,68,69,70]⟩:ByteArray) (ji14),bt (⟨#[48,49,50,51,52,53,54,55,56,57,65,66,67,68,69,70]⟩:ByteArray) (Go.bits .and .u8 t326 15)]:List Int):List Int)).bind fun y332=>(if x4_1.length + y332.length < 140737488355328 then (impl_EscNorm.l0 k1 a0 (x4_1 ++ y332) (wrap64 ((wrap64 (x5_1 + 2)) + 1))) else (none))) else (none)) else (none)) else (none)) else (none)) = some (r1,r2):=by first|(rw [hji14] at H;exact H)|(simp only [hji14] at H ⊢;exact H)
         (try rw [hji14] at A7)
         (try rw [hji14] at A9)
         by_cases c15:0 ≤ (ji14)
         ·rw [if_pos c15] at H
          have c15b0:decide (0 ≤ (ji14)) = true:=decide_eq_true c15
          clear c15
          by_cases c16:(ji14) < 16
          ·rw [if_pos c16] at H
           have c16b0:decide ((ji14) < 16) = true:=decide_eq_true c16
           clear c16
           by_cases c18:0 ≤ (Go.bits .and .u8 t326 15)
           ·rw [if_pos c18] at H
            have c18b0:decide (0 ≤ (Go.bits .and .u8 t326 15)) = true:=decide_eq_true c18
            clear c18
            by_cases c19:(Go.bits .and .u8 t326 15) < 16
            ·rw [if_pos c19] at H
             have c19b0:decide ((Go.bits .and .u8 t326 15) < 16) = true:=decide_eq_true c19
             clear c19
             obtain ⟨y332,hy332⟩:∃ y_:List Int,y_ = (([37,bt (⟨#[48,49,50,51,52,53,54,55,56,57,65,66,67,68,69,70]⟩:ByteArray) (ji14),bt (⟨#[48,49,50,51,52,53,54,55,56,57,65,66,67,68,69,70]⟩:ByteArray) (Go.bits .and .u8 t326 15)]:List Int)):=⟨_,rfl⟩
             replace H:(if x4_1.length + y332.length < 140737488355328 then (impl_EscNorm.l0 k1 a0 (x4_1 ++ y332) (wrap64 ((wrap64 (x5_1 + 2)) + 1))) else (none)) = some (r1,r2):=by first|(rw [hy332];with_reducible exact H)|(have H2_:=(Option.bind_some _ _).symm.trans H;rw [hy332];with_reducible exact H2_)|(have H2_:=(Option.bind_some _ _).symm.trans H;with_reducible exact H2_)|with_reducible exact H|(rw [hy332];exact H)|exact H
             have Ny332:=Am hy332
             clear hy332
             by_cases c21:x4_1.length + y332.length < 140737488355328
             ·rw [if_pos c21] at H
              have LMc21:=Am c21
              clear c21
              obtain ⟨y335,hy335⟩:∃ y_:List Int,y_ = (x4_1 ++ y332):=⟨_,rfl⟩
              replace H:(impl_EscNorm.l0 k1 a0 y335 (wrap64 ((wrap64 (x5_1 + 2)) + 1))) = some (r1,r2):=by first|(rw [hy335];with_reducible exact H)|(have H2_:=(Option.bind_some _ _).symm.trans H;rw [hy335];with_reducible exact H2_)|(have H2_:=(Option.bind_some _ _).symm.trans H;with_reducible exact H2_)|with_reducible exact H|(rw [hy335];exact H)|exact H
              have Ny335:=Am hy335
              clear hy335
              have H':=Am H
              clear H
              have p5:0 ≤ (x5_1:Int):=oD (by assumption)
              have q5:x5_1 < (a0.size:Int):=oD (by assumption)
              have hx5:=bt_at a0 x5_1
              replace p5:=eq_true p5
              replace q5:=eq_true q5
              try go_wp2_with (first|((with_reducible refine gate_callee (f:=86) rfl ?_);refine goesL_ (some 26) rfl rfl Tryd.func86 (by kernel_rfl) rfl #[.string a0, .int .i64 x5_1] rfl (aE2 rfl rfl) ?_;(with_reducible refine (impl_signByte.calls a0 x5_1 t326 true _ A7.out).mono ?_);rintro e w22 ⟨rfl,hb⟩;refine ⟨_,rfl,?_⟩;have n0_:=Am (Kd.R_below (bR HO_4.out) hb);have n1_:=Am (bT (by repeat (first|(with_reducible first|exact HB.out|apply bA|apply bN|apply bD)|exact HB.out)) hb);clear HO_4 HB;have HO_4:=n0_;have HB:=n1_;clear n0_ n1_;(try clear hb))|((with_reducible refine gate_callee (f:=87) rfl ?_);refine goesL_ (some 35) rfl rfl Tryd.func87 (by kernel_rfl) rfl #[.int .u8 t326] rfl (aE1 rfl) ?_;(with_reducible refine (impl_standsForItself.calls t326 false _ A9.out).mono ?_);rintro e w' ⟨rfl,⟨nd,rfl⟩⟩;refine ⟨_,rfl,?_⟩))
              (try (rw [drewN_self w22];generalize hq_:World.drewN w22 _ = w22;have n0_:Aside0 (Kd.R (Kd.int .u8) 5 w22 w.heap.size (fun _=>True) u4 x4_1):=⟨by rw [← hq_];exact (bR HO_4.out)⟩;have n1_:Aside0 (Below w.heap.size w w22):=⟨by rw [← hq_];exact (by repeat (first|(with_reducible first|exact HB.out|apply bA|apply bN|apply bD)|exact HB.out))⟩;clear HO_4 HB hq_;have HO_4:=n0_;have HB:=n1_;clear n0_ n1_))
              have n0_:=Am (Kd.R_drew HO_4.out)
              have n1_:=Am (below_drew1 HB.out)
              clear HO_4
              clear HB
              have HO_4:=n0_
              have HB:=n1_
              clear n0_ n1_
              have p17:0 ≤ ((ji14):Int):=oD (by assumption)
              have q17:(ji14) < (16:Int):=oD (by assumption)
              have hx17:=bt_at (⟨#[48,49,50,51,52,53,54,55,56,57,65,66,67,68,69,70]⟩:ByteArray) (ji14)
              replace p17:=eq_true p17
              replace q17:=eq_true q17
              have p20:0 ≤ ((Go.bits .and .u8 t326 15):Int):=oD (by assumption)
              have q20:(Go.bits .and .u8 t326 15) < (16:Int):=oD (by assumption)
              have hx20:=bt_at (⟨#[48,49,50,51,52,53,54,55,56,57,65,66,67,68,69,70]⟩:ByteArray) (Go.bits .and .u8 t326 15)
              replace p20:=eq_true p20
              replace q20:=eq_true q20
              refine start_ (n:=10) (S:=fun w'=>True) (ds:=[]) #[false,false,false,false,false,false,false,false,false,false] (by kernel_rfl) rfl rfl trivial (fun hHeld=>?_);refine with_tabW impl_EscNorm.tab16 impl_EscNorm.bits16 (fun HT_ HW_=>?_)
              generalize w22.drew = w23 at HO_4 HB hHeld ⊢
              refine pure_ (i:=0) (N:=some 40) (v:=?_) (a':=?_) #[true,false,false,false,false,false,false,false,false,false] rfl rfl (any_of HT_.out (by kernel_rfl)) (fun _ _ _ h=>h) (Or.inl ⟨by rfl,?_⟩) ?_ ?_
              rotate_left
              ·intro w'
               go_simp
               with_reducible rfl
              rotate_left
              ·simp only [Act.put,List.setIfInBounds_toArray,List.set_cons_zero,List.set_cons_succ,i64_w,i32_w]
               rfl
              refine pure_ (i:=1) (N:=some 41) (v:=?_) (a':=?_) #[true,true,false,false,false,false,false,false,false,false] rfl rfl (any_of HT_.out (by kernel_rfl)) (fun _ _ _ h=>h) (Or.inl ⟨by rfl,?_⟩) ?_ ?_
              rotate_left
              ·intro w'
               go_simp
               with_reducible rfl
              rotate_left
              ·simp only [Act.put,List.setIfInBounds_toArray,List.set_cons_zero,List.set_cons_succ,i64_w,i32_w]
               rfl
              refine pure_ (i:=2) (N:=some 42) (v:=?_) (a':=?_) #[true,true,true,false,false,false,false,false,false,false] rfl rfl (any_of HT_.out (by kernel_rfl)) (fun _ _ _ h=>h) (Or.inl ⟨by rfl,?_⟩) ?_ ?_
              rotate_left
              ·intro w'
               go_simp
               with_reducible rfl
              rotate_left
              ·simp only [Act.put,List.setIfInBounds_toArray,List.set_cons_zero,List.set_cons_succ,i64_w,i32_w]
               rfl
              refine pure_ (i:=4) (N:=some 44) (v:=?_) (a':=?_) #[true,true,true,false,true,false,false,false,false,false] rfl rfl (any_of HT_.out (by kernel_rfl)) (fun _ _ _ h=>h) (Or.inl ⟨by rfl,?_⟩) ?_ ?_
              rotate_left
              ·intro w'
               go_simp
               with_reducible rfl
              rotate_left
              ·simp only [Act.put,List.setIfInBounds_toArray,List.set_cons_zero,List.set_cons_succ,i64_w,i32_w]
               rfl
              refine pure_ (i:=5) (N:=some 45) (v:=?_) (a':=?_) #[true,true,true,false,true,true,false,false,false,false] rfl rfl (any_of HT_.out (by kernel_rfl)) (fun _ _ _ h=>h) (Or.inl ⟨by rfl,?_⟩) ?_ ?_
              rotate_left
              ·intro w'
               go_simp
               with_reducible rfl
              rotate_left
              ·simp only [Act.put,List.setIfInBounds_toArray,List.set_cons_zero,List.set_cons_succ,i64_w,i32_w]
               rfl
              refine take_ (i:=3) (N:=some 43) (v:=?_) (a':=?_) #[true,true,true,true,true,true,false,false,false,false] rfl rfl (take_ofW HT_.out HW_.out (by kernel_rfl)) (fun _ _ _ h=>h) (Or.inl ⟨by rfl,?_⟩) hHeld ?_ ?_
              rotate_left
              ·intro w' _
               go_simp
               with_reducible rfl
              rotate_left
              ·simp only [Act.put,List.setIfInBounds_toArray,List.set_cons_zero,List.set_cons_succ,i64_w,i32_w]
               rfl
              refine take_ (i:=6) (N:=some 46) (v:=?_) (a':=?_) #[true,true,true,true,true,true,true,false,false,false] rfl rfl (take_ofW HT_.out HW_.out (by kernel_rfl)) (fun _ _ _ h=>h) (Or.inl ⟨by rfl,?_⟩) hHeld ?_ ?_
              rotate_left
              ·intro w' _
               go_simp
               with_reducible rfl
              rotate_left
              ·simp only [Act.put,List.setIfInBounds_toArray,List.set_cons_zero,List.set_cons_succ,i64_w,i32_w]
               rfl
              refine one_ (i:=7) (N:=some 47) #[true,true,true,true,true,true,true,true,false,false] rfl rfl (one_of HT_.out (by kernel_rfl)) (by decide) (fun K hK=>?_)
              refine Kd.R_lit_step (Kd.int .u8) _ 5 ?hg (N:=47) ?hd (xs:=([37,bt (⟨#[48,49,50,51,52,53,54,55,56,57,65,66,67,68,69,70]⟩:ByteArray) (ji14),bt (⟨#[48,49,50,51,52,53,54,55,56,57,65,66,67,68,69,70]⟩:ByteArray) (Go.bits .and .u8 t326 15)]:List Int)) (inner:=[.int .u8 37, .int .u8 (bt (⟨#[48,49,50,51,52,53,54,55,56,57,65,66,67,68,69,70]⟩:ByteArray) (ji14)), .int .u8 (bt (⟨#[48,49,50,51,52,53,54,55,56,57,65,66,67,68,69,70]⟩:ByteArray) (Go.bits .and .u8 t326 15))]) (ok:=fun _=>True) (okp:=fun _=>True) ?hr ?hp (fun _ hk=>hk) trivial (Below.refl _ _) (Nat.le_refl _) (by simp) ?_;(case hd=>rfl);(case hg=>rfl);(case hr=>(go_simp <;> rfl));(case hp=>exact (Reps.one (show Kd.M (Kd.int .u8) _ _ _ 37 [.int .u8 37] from rfl) (Reps.one (show Kd.M (Kd.int .u8) _ _ _ (bt (⟨#[48,49,50,51,52,53,54,55,56,57,65,66,67,68,69,70]⟩:ByteArray) (ji14)) [.int .u8 (bt (⟨#[48,49,50,51,52,53,54,55,56,57,65,66,67,68,69,70]⟩:ByteArray) (ji14))] from rfl) (Reps.one (show Kd.M (Kd.int .u8) _ _ _ (bt (⟨#[48,49,50,51,52,53,54,55,56,57,65,66,67,68,69,70]⟩:ByteArray) (Go.bits .and .u8 t326 15)) [.int .u8 (bt (⟨#[48,49,50,51,52,53,54,55,56,57,65,66,67,68,69,70]⟩:ByteArray) (Go.bits .and .u8 t326 15))] from rfl) (Reps.none _ _)))))
              intro v333 w24 ho25 hb hg_ hnew_
              clear hg_ hnew_
              (first|rw [← Ny332.out] at ho25|(simp only [Int.reduceToNat] at ho25;rw [← Ny332.out] at ho25))
              have n0_:=Am (Kd.R_elder' (bR HO_4.out) (Kd.R_base ho25) hb)
              have n1_:=Am (Kd.R_lower (Kd.R_new' ho25 (Kd.R_lt (bR HO_4.out))) (bU (by repeat (first|(with_reducible first|exact HB.out|apply bA|apply bN|apply bD)|exact HB.out))))
              have n2_:=Am (bT (by repeat (first|(with_reducible first|exact HB.out|apply bA|apply bN|apply bD)|exact HB.out)) hb)
              clear HO_4
              clear HB
              have HO_4:=n0_
              have HO334:=n1_
              have HB:=n2_
              clear n0_ n1_ n2_
              clear hb ho25
              obtain ⟨Ao27,co27,eo27⟩:=Kd.R_slice HO334.out
              (first|subst eo27|(injection eo27 with f1_ f2_ f3_;have f4_:=f1_.symm;have f5_:=f3_.symm;clear f1_ f2_ f3_;subst f4_;subst f5_))
              refine hK.out _ _ trivial (fun hHeld=>?_)
              clear hK K
              refine norm_ (a':=?_) ?_ ?_
              rotate_left
              ·show Act.put _ (some 47) _ = _
               simp only [Act.put,List.setIfInBounds_toArray,List.set_cons_zero,List.set_cons_succ,i64_w,i32_w]
               rfl
              refine one_ (i:=8) (N:=some 48) #[true,true,true,true,true,true,true,true,true,false] rfl rfl (one_of HT_.out (by kernel_rfl)) (by decide) (fun K hK=>?_)
              refine Kd.R_append_rows_step (Kd.int .u8) (w0:=w) w.heap.size (by rfl) (.tmp 40) (.tmp 47) 22 5 (.int .u8 0) 1 rfl Tryd.underlying22 info5 rfl (by decide) (by omega) u4 x4_1 y332 _ _ _ (fun k_=>some k_ ≠ (.slice Ao27 y332.length co27:Value).ownBlock) (fun _=>False) rfl rfl ?aO ?aR (fun _ _ h=>h) (fun _ h=>h.elim) ?aF ?aB ?aS ?aL ?_
              (case aR=>repeat (first|exact (Kd.R_reads' HO334.out).2.2|(with_reducible refine bC ?_)))
              (case aB=>exact (by repeat (first|(with_reducible first|exact HB.out|apply bA|apply bN|apply bD)|exact HB.out)))
              (case aF=>exact (fun k_ hk=>Kd.fresh' (Kd.R_lt (bR HO334.out)) k_ hk))
              (case aO=>exact (by (with_reducible repeat (first|apply rA|apply rN|apply rD));exact Kd.R_mono HO_4.out (fun _ hk=>hk.2)))
              (case aS=>exact (bU (by repeat (first|(with_reducible first|exact HB.out|apply bA|apply bN|apply bD)|exact HB.out))))
              (case aL=>have:=LMc21.out;omega)
              intro v336 w26 ho hb hg hat
              rw [← Ny335.out] at ho
              have n0_:=Am (Kd.R_after (ok:=(fun _=>True)) (bR HO334.out) hg hat)
              have n1_:=Am (hb)
              have n2_:=Am (ho)
              clear HO334
              clear HB
              clear HO_4
              have HO334:=n0_
              have HB:=n1_
              have HO337:=n2_
              clear n0_ n1_ n2_
              clear ho hb hg hat
              refine hK.out _ _ trivial (fun hHeld=>?_)
              clear hK K
              refine norm_ (a':=?_) ?_ ?_
              rotate_left
              ·show Act.put _ (some 48) _ = _
               simp only [Act.put,List.setIfInBounds_toArray,List.set_cons_zero,List.set_cons_succ,i64_w,i32_w]
               rfl
              refine pure_ (i:=9) (N:=some 4) (v:=?_) (a':=?_) #[true,true,true,true,true,true,true,true,true,true] rfl rfl (any_of HT_.out (by kernel_rfl)) (fun _ _ _ h=>h) (Or.inl ⟨by rfl,?_⟩) ?_ ?_
              rotate_left
              ·intro w'
               go_simp
               with_reducible rfl
              rotate_left
              ·simp only [Act.put,List.setIfInBounds_toArray,List.set_cons_zero,List.set_cons_succ,i64_w,i32_w]
               rfl
              refine done_ (done_of HT_.out (by kernel_rfl)) ?_
              try go_wp2
              go_roundg k1
              case measure=>have:=HK1.out;omega
              case rel=>exact ⟨(y335),(wrap64 ((wrap64 (x5_1 + 2)) + 1)),(by first|rfl|(simp;done)|(simp only [i64_w,i32_w] <;> rfl)|(simp [*];done)|(simp [emp_bne,emp_beq];done)),H',⟨by have:=HK1.out;omega⟩,⟨by (with_reducible repeat (first|apply rA|apply rN|apply rD));exact Kd.R_mono HO337.out (fun _ hk=>trivial)⟩,⟨by repeat (first|(with_reducible first|exact HB.out|apply bA|apply bN|apply bD)|exact HB.out)⟩⟩
             ·rw [if_neg c21] at H
              exact absurd H (by simp)
            ·rw [if_neg c19] at H
             exact absurd H (by simp)
           ·rw [if_neg c18] at H
            exact absurd H (by simp)
          ·rw [if_neg c16] at H
           exact absurd H (by simp)
         ·rw [if_neg c15] at H
          exact absurd H (by simp)
       ·replace c8:=Bool.eq_false_iff.mpr c8
        subst c8
        have H1:(some ((⟨#[]⟩:ByteArray),false)) = some (r1,r2):=by rw [if_neg (show ¬ (false = true) by decide)] at H;exact H
        clear H
        have H:=H1
        clear H1
        simp only [Option.some.injEq,Prod.mk.injEq] at H
        obtain ⟨rfl,rfl⟩:=H
        have p5:0 ≤ (x5_1:Int):=oD (by assumption)
        have q5:x5_1 < (a0.size:Int):=oD (by assumption)
        have hx5:=bt_at a0 x5_1
        replace p5:=eq_true p5
        replace q5:=eq_true q5
        go_wp2_with (first|((with_reducible refine gate_callee (f:=86) rfl ?_);refine goesL_ (some 26) rfl rfl Tryd.func86 (by kernel_rfl) rfl #[.string a0, .int .i64 x5_1] rfl (aE2 rfl rfl) ?_;(with_reducible refine (impl_signByte.calls a0 x5_1 t326 false _ A7.out).mono ?_);rintro e w28 ⟨rfl,hb⟩;refine ⟨_,rfl,?_⟩;have n0_:=Am (Kd.R_below (bR HO_4.out) hb);have n1_:=Am (bT (by repeat (first|(with_reducible first|exact HB.out|apply bA|apply bN|apply bD)|exact HB.out)) hb);clear HO_4 HB;have HO_4:=n0_;have HB:=n1_;clear n0_ n1_;(try clear hb)))
        go_ret2
        exact ⟨by first|rfl|(simp <;> rfl)|(simp [*] <;> rfl),by repeat (first|(with_reducible first|exact HB.out|apply bA|apply bN|apply bD)|exact HB.out)⟩
      ·rw [if_neg c6] at H
       have c6b0:((bt a0 x5_1) == 37) = false:=beq_eq_false_iff_ne.mpr c6
       have c6b1:((bt a0 x5_1) != 37) = true:=bne_iff_ne.mpr c6
       replace H:=bI H
       obtain ⟨t338,A290,H⟩:=H
       replace H:(if t338 = true then (if x4_1.length < 140737488355328 then (impl_EscNorm.l0 k1 a0 (x4_1 ++ [bt a0 x5_1]) (wrap64 (x5_1 + 1))) else (none)) else (if 0 ≤ ((bt a0 x5_1) / 16) then (if ((bt a0 x5_1) / 16) < 16 then (if 0 ≤ (Go.bits .and .u8 (bt a0 x5_1) 15) then (if (Go.bits .and .u8 (bt a0 x5_1) 15) < 16 then ((some (([37,bt (⟨#[48,49,50,51,52,53,54,55,56,57,65,66,67,68,69,70]⟩:ByteArray) ((bt a0 x5_1) / 16),bt (⟨#[48,49,50,51,52,53,54,55,56,57,65,66,67,68,69,70]⟩:ByteArray) (Go.bits .and .u8 (bt a0 x5_1) 15)]:List Int):List Int)).bind fun y342=>(if x4_1.length + y342.length < 140737488355328 then (impl_EscNorm.l0 k1 a0 (x4_1 ++ y342) (wrap64 (x5_1 + 1))) else (none))) else (none)) else (none)) else (none)) else (none))) = some (r1,r2):=H
       have A29:=Am A290
       clear A290
       by_cases c30:t338 = true
       ·subst c30
        have H1:(if x4_1.length < 140737488355328 then (impl_EscNorm.l0 k1 a0 (x4_1 ++ [bt a0 x5_1]) (wrap64 (x5_1 + 1))) else (none)) = some (r1,r2):=by rw [if_pos rfl] at H;exact H
        clear H
        have H:=H1
        clear H1
        by_cases c31:x4_1.length < 140737488355328
        ·rw [if_pos c31] at H
         have LMc31:=Am c31
         clear c31
         obtain ⟨y339,hy339⟩:∃ y_:List Int,y_ = (x4_1 ++ [bt a0 x5_1]):=⟨_,rfl⟩
         replace H:(impl_EscNorm.l0 k1 a0 y339 (wrap64 (x5_1 + 1))) = some (r1,r2):=by first|(rw [hy339];with_reducible exact H)|(have H2_:=(Option.bind_some _ _).symm.trans H;rw [hy339];with_reducible exact H2_)|(have H2_:=(Option.bind_some _ _).symm.trans H;with_reducible exact H2_)|with_reducible exact H|(rw [hy339];exact H)|exact H
         have Ny339:=Am hy339
         clear hy339
         have H':=Am H
         clear H
         have p5:0 ≤ (x5_1:Int):=oD (by assumption)
         have q5:x5_1 < (a0.size:Int):=oD (by assumption)
         have hx5:=bt_at a0 x5_1
         replace p5:=eq_true p5
         replace q5:=eq_true q5
         go_wp2_with (first|((with_reducible refine gate_callee (f:=87) rfl ?_);refine goesL_ (some 35) rfl rfl Tryd.func87 (by kernel_rfl) rfl #[.int .u8 (bt a0 x5_1)] rfl (aE1 rfl) ?_;(with_reducible refine (impl_standsForItself.calls (bt a0 x5_1) true _ A29.out).mono ?_);rintro e w' ⟨rfl,⟨nd,rfl⟩⟩;refine ⟨_,rfl,?_⟩)|((with_reducible refine gate_builtin (b:=.append) (xs:=#[.tmp 36, .tmp 38]) rfl ?_);at_builtin;refine Kd.R_append (Kd.int .u8) (w0:=w) w.heap.size rfl (.tmp 36) (.tmp 38) 22 5 (.int .u8 0) 1 rfl Tryd.underlying22 info5 rfl (by decide) (by omega) u4 x4_1 (bt a0 x5_1) [.int .u8 (bt a0 x5_1)] (fun _=>True) (fun _=>False) rfl rfl ?aP (fun _ hk=>hk.elim) ?aF ?aO ?aB ?aS ?aL ?_;(case aP=>exact rfl);(case aB=>exact (by repeat (first|(with_reducible first|exact HB.out|apply bA|apply bN|apply bD)|exact HB.out)));(case aF=>exact (fun _ _=>trivial));(case aO=>exact (bR HO_4.out));(case aS=>exact (bU (by repeat (first|(with_reducible first|exact HB.out|apply bA|apply bN|apply bD)|exact HB.out))));(case aL=>have:=LMc31.out;omega);intro v340 w32 ho hb hg hat;rw [← Ny339.out] at ho;have n0_:=Am (hb);have n1_:=Am (ho);clear HB HO_4;have HB:=n0_;have HO341:=n1_;clear n0_ n1_ ho hb hg hat))
         go_roundg k1
         case measure=>have:=HK1.out;omega
         case rel=>exact ⟨(y339),(wrap64 (x5_1 + 1)),(by first|rfl|(simp;done)|(simp only [i64_w,i32_w] <;> rfl)|(simp [*];done)|(simp [emp_bne,emp_beq];done)),H',⟨by have:=HK1.out;omega⟩,⟨by (with_reducible repeat (first|apply rA|apply rN|apply rD));exact HO341.out⟩,⟨by repeat (first|(with_reducible first|exact HB.out|apply bA|apply bN|apply bD)|exact HB.out)⟩⟩
        ·rw [if_neg c31] at H
         exact absurd H (by simp)
       ·replace c30:=Bool.eq_false_iff.mpr c30
        subst c30
        have H1:(if 0 ≤ ((bt a0 x5_1) / 16) then (if ((bt a0 x5_1) / 16) < 16 then (if 0 ≤ (Go.bits .and .u8 (bt a0 x5_1) 15) then (if (Go.bits .and .u8 (bt a0 x5_1) 15) < 16 then ((some (([37,bt (⟨#[48,49,50,51,52,53,54,55,56,57,65,66,67,68,69,70]⟩:ByteArray) ((bt a0 x5_1) / 16),bt (⟨#[48,49,50,51,52,53,54,55,56,57,65,66,67,68,69,70]⟩:ByteArray) (Go.bits .and .u8 (bt a0 x5_1) 15)]:List Int):List Int)).bind fun y342=>(if x4_1.length + y342.length < 140737488355328 then (impl_EscNorm.l0 k1 a0 (x4_1 ++ y342) (wrap64 (x5_1 + 1))) else (none))) else (none)) else (none)) else (none)) else (none)) = some (r1,r2):=by rw [if_neg (show ¬ (false = true) by decide)] at H;exact H
        clear H
        have H:=H1
        clear H1
        obtain ⟨ji33,hji33⟩:∃ j_:Int,((bt a0 x5_1) / 16) = j_:=⟨_,rfl⟩
        replace H:(if 0 ≤ (ji33) then (if (ji33) < 16 then (if 0 ≤ (Go.bits .and .u8 (bt a0 x5_1) 15) then (if (Go.bits .and .u8 (bt a0 x5_1) 15) < 16 then ((some (([37,bt (⟨#[48,49,50,51,52,53,54,55,56,57,65,66,67,68,69,70]⟩:ByteArray) (ji33),bt (⟨#[48,49,50,51,52,53,54,55,56,57,65,66,67,68,69,70]⟩:ByteArray) (Go.bits .and .u8 (bt a0 x5_1) 15)]:List Int):List Int)).bind fun y342=>(if x4_1.length + y342.length < 140737488355328 then (impl_EscNorm.l0 k1 a0 (x4_1 ++ y342) (wrap64 (x5_1 + 1))) else (none))) else (none)) else (none)) else (none)) else (none)) = some (r1,r2):=by first|(rw [hji33] at H;exact H)|(simp only [hji33] at H ⊢;exact H)
        (try rw [hji33] at A29)
        by_cases c34:0 ≤ (ji33)
        ·rw [if_pos c34] at H
         have c34b0:decide (0 ≤ (ji33)) = true:=decide_eq_true c34
         clear c34
         by_cases c35:(ji33) < 16
         ·rw [if_pos c35] at H
          have c35b0:decide ((ji33) < 16) = true:=decide_eq_true c35
          clear c35
          by_cases c37:0 ≤ (Go.bits .and .u8 (bt a0 x5_1) 15)
          ·rw [if_pos c37] at H
           have c37b0:decide (0 ≤ (Go.bits .and .u8 (bt a0 x5_1) 15)) = true:=decide_eq_true c37
           clear c37
           by_cases c38:(Go.bits .and .u8 (bt a0 x5_1) 15) < 16
           ·rw [if_pos c38] at H
            have c38b0:decide ((Go.bits .and .u8 (bt a0 x5_1) 15) < 16) = true:=decide_eq_true c38
            clear c38
            obtain ⟨y342,hy342⟩:∃ y_:List Int,y_ = (([37,bt (⟨#[48,49,50,51,52,53,54,55,56,57,65,66,67,68,69,70]⟩:ByteArray) (ji33),bt (⟨#[48,49,50,51,52,53,54,55,56,57,65,66,67,68,69,70]⟩:ByteArray) (Go.bits .and .u8 (bt a0 x5_1) 15)]:List Int)):=⟨_,rfl⟩
            replace H:(if x4_1.length + y342.length < 140737488355328 then (impl_EscNorm.l0 k1 a0 (x4_1 ++ y342) (wrap64 (x5_1 + 1))) else (none)) = some (r1,r2):=by first|(rw [hy342];with_reducible exact H)|(have H2_:=(Option.bind_some _ _).symm.trans H;rw [hy342];with_reducible exact H2_)|(have H2_:=(Option.bind_some _ _).symm.trans H;with_reducible exact H2_)|with_reducible exact H|(rw [hy342];exact H)|exact H
            have Ny342:=Am hy342
            clear hy342
            by_cases c40:x4_1.length + y342.length < 140737488355328
            ·rw [if_pos c40] at H
             have LMc40:=Am c40
             clear c40
             obtain ⟨y345,hy345⟩:∃ y_:List Int,y_ = (x4_1 ++ y342):=⟨_,rfl⟩
             replace H:(impl_EscNorm.l0 k1 a0 y345 (wrap64 (x5_1 + 1))) = some (r1,r2):=by first|(rw [hy345];with_reducible exact H)|(have H2_:=(Option.bind_some _ _).symm.trans H;rw [hy345];with_reducible exact H2_)|(have H2_:=(Option.bind_some _ _).symm.trans H;with_reducible exact H2_)|with_reducible exact H|(rw [hy345];exact H)|exact H
             have Ny345:=Am hy345
             clear hy345
             have H':=Am H
             clear H
             have p5:0 ≤ (x5_1:Int):=oD (by assumption)
             have q5:x5_1 < (a0.size:Int):=oD (by assumption)
             have hx5:=bt_at a0 x5_1
             replace p5:=eq_true p5
             replace q5:=eq_true q5
             try go_wp2_with (first|((with_reducible refine gate_callee (f:=87) rfl ?_);refine goesL_ (some 35) rfl rfl Tryd.func87 (by kernel_rfl) rfl #[.int .u8 (bt a0 x5_1)] rfl (aE1 rfl) ?_;(with_reducible refine (impl_standsForItself.calls (bt a0 x5_1) false _ A29.out).mono ?_);rintro e w' ⟨rfl,⟨nd,rfl⟩⟩;refine ⟨_,rfl,?_⟩))
             (try (rw [drewN_self wr];generalize hq_:World.drewN wr _ = wr;have n0_:Aside0 (Kd.R (Kd.int .u8) 5 wr w.heap.size (fun _=>True) u4 x4_1):=⟨by rw [← hq_];exact (bR HO_4.out)⟩;have n1_:Aside0 (Below w.heap.size w wr):=⟨by rw [← hq_];exact (by repeat (first|(with_reducible first|exact HB.out|apply bA|apply bN|apply bD)|exact HB.out))⟩;clear HO_4 HB hq_;have HO_4:=n0_;have HB:=n1_;clear n0_ n1_))
             have n0_:=Am (Kd.R_drew HO_4.out)
             have n1_:=Am (below_drew1 HB.out)
             clear HO_4
             clear HB
             have HO_4:=n0_
             have HB:=n1_
             clear n0_ n1_
             have p36:0 ≤ ((ji33):Int):=oD (by assumption)
             have q36:(ji33) < (16:Int):=oD (by assumption)
             have hx36:=bt_at (⟨#[48,49,50,51,52,53,54,55,56,57,65,66,67,68,69,70]⟩:ByteArray) (ji33)
             replace p36:=eq_true p36
             replace q36:=eq_true q36
             have p39:0 ≤ ((Go.bits .and .u8 (bt a0 x5_1) 15):Int):=oD (by assumption)
             have q39:(Go.bits .and .u8 (bt a0 x5_1) 15) < (16:Int):=oD (by assumption)
             have hx39:=bt_at (⟨#[48,49,50,51,52,53,54,55,56,57,65,66,67,68,69,70]⟩:ByteArray) (Go.bits .and .u8 (bt a0 x5_1) 15)
             replace p39:=eq_true p39
             replace q39:=eq_true q39
             refine start_ (n:=10) (S:=fun w'=>True) (ds:=[]) #[false,false,false,false,false,false,false,false,false,false] (by kernel_rfl) rfl rfl trivial (fun hHeld=>?_);refine with_tabW impl_EscNorm.tab16 impl_EscNorm.bits16 (fun HT_ HW_=>?_)
             generalize wr.drew = w41 at HO_4 HB hHeld ⊢
             refine pure_ (i:=0) (N:=some 40) (v:=?_) (a':=?_) #[true,false,false,false,false,false,false,false,false,false] rfl rfl (any_of HT_.out (by kernel_rfl)) (fun _ _ _ h=>h) (Or.inl ⟨by rfl,?_⟩) ?_ ?_
             rotate_left
             ·intro w'
              go_simp
              with_reducible rfl
             rotate_left
             ·simp only [Act.put,List.setIfInBounds_toArray,List.set_cons_zero,List.set_cons_succ,i64_w,i32_w]
              rfl
             refine pure_ (i:=1) (N:=some 41) (v:=?_) (a':=?_) #[true,true,false,false,false,false,false,false,false,false] rfl rfl (any_of HT_.out (by kernel_rfl)) (fun _ _ _ h=>h) (Or.inl ⟨by rfl,?_⟩) ?_ ?_
             rotate_left
             ·intro w'
              go_simp
              with_reducible rfl
             rotate_left
             ·simp only [Act.put,List.setIfInBounds_toArray,List.set_cons_zero,List.set_cons_succ,i64_w,i32_w]
              rfl
             refine pure_ (i:=2) (N:=some 42) (v:=?_) (a':=?_) #[true,true,true,false,false,false,false,false,false,false] rfl rfl (any_of HT_.out (by kernel_rfl)) (fun _ _ _ h=>h) (Or.inl ⟨by rfl,?_⟩) ?_ ?_
             rotate_left
             ·intro w'
              go_simp
              with_reducible rfl
             rotate_left
             ·simp only [Act.put,List.setIfInBounds_toArray,List.set_cons_zero,List.set_cons_succ,i64_w,i32_w]
              rfl
             refine pure_ (i:=4) (N:=some 44) (v:=?_) (a':=?_) #[true,true,true,false,true,false,false,false,false,false] rfl rfl (any_of HT_.out (by kernel_rfl)) (fun _ _ _ h=>h) (Or.inl ⟨by rfl,?_⟩) ?_ ?_
             rotate_left
             ·intro w'
              go_simp
              with_reducible rfl
             rotate_left
             ·simp only [Act.put,List.setIfInBounds_toArray,List.set_cons_zero,List.set_cons_succ,i64_w,i32_w]
              rfl
             refine pure_ (i:=5) (N:=some 45) (v:=?_) (a':=?_) #[true,true,true,false,true,true,false,false,false,false] rfl rfl (any_of HT_.out (by kernel_rfl)) (fun _ _ _ h=>h) (Or.inl ⟨by rfl,?_⟩) ?_ ?_
             rotate_left
             ·intro w'
              go_simp
              with_reducible rfl
             rotate_left
             ·simp only [Act.put,List.setIfInBounds_toArray,List.set_cons_zero,List.set_cons_succ,i64_w,i32_w]
              rfl
             refine take_ (i:=3) (N:=some 43) (v:=?_) (a':=?_) #[true,true,true,true,true,true,false,false,false,false] rfl rfl (take_ofW HT_.out HW_.out (by kernel_rfl)) (fun _ _ _ h=>h) (Or.inl ⟨by rfl,?_⟩) hHeld ?_ ?_
             rotate_left
             ·intro w' _
              go_simp
              with_reducible rfl
             rotate_left
             ·simp only [Act.put,List.setIfInBounds_toArray,List.set_cons_zero,List.set_cons_succ,i64_w,i32_w]
              rfl
             refine take_ (i:=6) (N:=some 46) (v:=?_) (a':=?_) #[true,true,true,true,true,true,true,false,false,false] rfl rfl (take_ofW HT_.out HW_.out (by kernel_rfl)) (fun _ _ _ h=>h) (Or.inl ⟨by rfl,?_⟩) hHeld ?_ ?_
             rotate_left
             ·intro w' _
              go_simp
              with_reducible rfl
             rotate_left
             ·simp only [Act.put,List.setIfInBounds_toArray,List.set_cons_zero,List.set_cons_succ,i64_w,i32_w]
              rfl
             refine one_ (i:=7) (N:=some 47) #[true,true,true,true,true,true,true,true,false,false] rfl rfl (one_of HT_.out (by kernel_rfl)) (by decide) (fun K hK=>?_)
             refine Kd.R_lit_step (Kd.int .u8) _ 5 ?hg (N:=47) ?hd (xs:=([37,bt (⟨#[48,49,50,51,52,53,54,55,56,57,65,66,67,68,69,70]⟩:ByteArray) (ji33),bt (⟨#[48,49,50,51,52,53,54,55,56,57,65,66,67,68,69,70]⟩:ByteArray) (Go.bits .and .u8 (bt a0 x5_1) 15)]:List Int)) (inner:=[.int .u8 37, .int .u8 (bt (⟨#[48,49,50,51,52,53,54,55,56,57,65,66,67,68,69,70]⟩:ByteArray) (ji33)), .int .u8 (bt (⟨#[48,49,50,51,52,53,54,55,56,57,65,66,67,68,69,70]⟩:ByteArray) (Go.bits .and .u8 (bt a0 x5_1) 15))]) (ok:=fun _=>True) (okp:=fun _=>True) ?hr ?hp (fun _ hk=>hk) trivial (Below.refl _ _) (Nat.le_refl _) (by simp) ?_;(case hd=>rfl);(case hg=>rfl);(case hr=>(go_simp <;> rfl));(case hp=>exact (Reps.one (show Kd.M (Kd.int .u8) _ _ _ 37 [.int .u8 37] from rfl) (Reps.one (show Kd.M (Kd.int .u8) _ _ _ (bt (⟨#[48,49,50,51,52,53,54,55,56,57,65,66,67,68,69,70]⟩:ByteArray) (ji33)) [.int .u8 (bt (⟨#[48,49,50,51,52,53,54,55,56,57,65,66,67,68,69,70]⟩:ByteArray) (ji33))] from rfl) (Reps.one (show Kd.M (Kd.int .u8) _ _ _ (bt (⟨#[48,49,50,51,52,53,54,55,56,57,65,66,67,68,69,70]⟩:ByteArray) (Go.bits .and .u8 (bt a0 x5_1) 15)) [.int .u8 (bt (⟨#[48,49,50,51,52,53,54,55,56,57,65,66,67,68,69,70]⟩:ByteArray) (Go.bits .and .u8 (bt a0 x5_1) 15))] from rfl) (Reps.none _ _)))))
             intro v343 w42 ho43 hb hg_ hnew_
             clear hg_ hnew_
             (first|rw [← Ny342.out] at ho43|(simp only [Int.reduceToNat] at ho43;rw [← Ny342.out] at ho43))
             have n0_:=Am (Kd.R_elder' (bR HO_4.out) (Kd.R_base ho43) hb)
             have n1_:=Am (Kd.R_lower (Kd.R_new' ho43 (Kd.R_lt (bR HO_4.out))) (bU (by repeat (first|(with_reducible first|exact HB.out|apply bA|apply bN|apply bD)|exact HB.out))))
             have n2_:=Am (bT (by repeat (first|(with_reducible first|exact HB.out|apply bA|apply bN|apply bD)|exact HB.out)) hb)
             clear HO_4
             clear HB
             have HO_4:=n0_
             have HO344:=n1_
             have HB:=n2_
             clear n0_ n1_ n2_
             clear hb ho43
             obtain ⟨Ao45,co45,eo45⟩:=Kd.R_slice HO344.out
             (first|subst eo45|(injection eo45 with f1_ f2_ f3_;have f4_:=f1_.symm;have f5_:=f3_.symm;clear f1_ f2_ f3_;subst f4_;subst f5_))
             refine hK.out _ _ trivial (fun hHeld=>?_)
             clear hK K
             refine norm_ (a':=?_) ?_ ?_
             rotate_left
             ·show Act.put _ (some 47) _ = _
              simp only [Act.put,List.setIfInBounds_toArray,List.set_cons_zero,List.set_cons_succ,i64_w,i32_w]
              rfl
             refine one_ (i:=8) (N:=some 48) #[true,true,true,true,true,true,true,true,true,false] rfl rfl (one_of HT_.out (by kernel_rfl)) (by decide) (fun K hK=>?_)
             refine Kd.R_append_rows_step (Kd.int .u8) (w0:=w) w.heap.size (by rfl) (.tmp 40) (.tmp 47) 22 5 (.int .u8 0) 1 rfl Tryd.underlying22 info5 rfl (by decide) (by omega) u4 x4_1 y342 _ _ _ (fun k_=>some k_ ≠ (.slice Ao45 y342.length co45:Value).ownBlock) (fun _=>False) rfl rfl ?aO ?aR (fun _ _ h=>h) (fun _ h=>h.elim) ?aF ?aB ?aS ?aL ?_
             (case aR=>repeat (first|exact (Kd.R_reads' HO344.out).2.2|(with_reducible refine bC ?_)))
             (case aB=>exact (by repeat (first|(with_reducible first|exact HB.out|apply bA|apply bN|apply bD)|exact HB.out)))
             (case aF=>exact (fun k_ hk=>Kd.fresh' (Kd.R_lt (bR HO344.out)) k_ hk))
             (case aO=>exact (by (with_reducible repeat (first|apply rA|apply rN|apply rD));exact Kd.R_mono HO_4.out (fun _ hk=>hk.2)))
             (case aS=>exact (bU (by repeat (first|(with_reducible first|exact HB.out|apply bA|apply bN|apply bD)|exact HB.out))))
             (case aL=>have:=LMc40.out;omega)
             intro v346 w44 ho hb hg hat
             rw [← Ny345.out] at ho
             have n0_:=Am (Kd.R_after (ok:=(fun _=>True)) (bR HO344.out) hg hat)
             have n1_:=Am (hb)
             have n2_:=Am (ho)
             clear HO344
             clear HB
             clear HO_4
             have HO344:=n0_
             have HB:=n1_
             have HO347:=n2_
             clear n0_ n1_ n2_
             clear ho hb hg hat
             refine hK.out _ _ trivial (fun hHeld=>?_)
             clear hK K
             refine norm_ (a':=?_) ?_ ?_
             rotate_left
             ·show Act.put _ (some 48) _ = _
              simp only [Act.put,List.setIfInBounds_toArray,List.set_cons_zero,List.set_cons_succ,i64_w,i32_w]
              rfl
             refine pure_ (i:=9) (N:=some 4) (v:=?_) (a':=?_) #[true,true,true,true,true,true,true,true,true,true] rfl rfl (any_of HT_.out (by kernel_rfl)) (fun _ _ _ h=>h) (Or.inl ⟨by rfl,?_⟩) ?_ ?_
             rotate_left
             ·intro w'
              go_simp
              with_reducible rfl
             rotate_left
             ·simp only [Act.put,List.setIfInBounds_toArray,List.set_cons_zero,List.set_cons_succ,i64_w,i32_w]
              rfl
             refine done_ (done_of HT_.out (by kernel_rfl)) ?_
             try go_wp2
             go_roundg k1
             case measure=>have:=HK1.out;omega
             case rel=>exact ⟨(y345),(wrap64 (x5_1 + 1)),(by first|rfl|(simp;done)|(simp only [i64_w,i32_w] <;> rfl)|(simp [*];done)|(simp [emp_bne,emp_beq];done)),H',⟨by have:=HK1.out;omega⟩,⟨by (with_reducible repeat (first|apply rA|apply rN|apply rD));exact Kd.R_mono HO347.out (fun _ hk=>trivial)⟩,⟨by repeat (first|(with_reducible first|exact HB.out|apply bA|apply bN|apply bD)|exact HB.out)⟩⟩
            ·rw [if_neg c40] at H
             exact absurd H (by simp)
           ·rw [if_neg c38] at H
            exact absurd H (by simp)
          ·rw [if_neg c37] at H
           exact absurd H (by simp)
         ·rw [if_neg c35] at H
          exact absurd H (by simp)
        ·rw [if_neg c34] at H
         exact absurd H (by simp)
     ·rw [if_neg c4] at H
      exact absurd H (by simp)
    ·rw [if_neg c3] at H
     have c3b0:decide (x5_1 < (a0.size:Int)) = false:=decide_eq_false c3
     clear c3
     simp only [Option.some.injEq,Prod.mk.injEq] at H
     obtain ⟨rfl,rfl⟩:=H
     have hcv46:=own_string (P:=Tryd.prog) Tryd.underlying22 Tryd.underlying5 Tryd.underlying9 (Kd.own_of_R HO_4.out)
     go_wp2
     go_ret2
     exact ⟨by first|rfl|(simp <;> rfl)|(simp [*] <;> rfl),by repeat (first|(with_reducible first|exact HB.out|apply bA|apply bN|apply bD)|exact HB.out)⟩

/-! ### impl_isNormal: function 56 -/
def impl_isNormal.f (k:Nat) (a0:ByteArray):Option (Bool):=(impl_EscNorm.f k a0).bind fun bt348=>(if bt348.2 = true then (some (bt348.1.toList == a0.toList)) else (some false))
theorem impl_isNormal.mono:∀ a0 k,LeO (impl_isNormal.f k a0) (impl_isNormal.f (k + 1) a0):=by
 intro a0 k
 unfold impl_isNormal.f
 repeat' first
   | (with_reducible apply impl_EscNorm.mono)
   | (with_reducible exact LeO.refl _)
   | (with_reducible exact LeO.none _)
   | (with_reducible refine LeO.ite ?_ ?_)
   | (with_reducible refine LeO.bind ?_ (fun _=>?_))
   | exact impl_EscNorm.mono _ _
   | exact LeO.none _
   | refine LeO.ite ?_ ?_
   | refine LeO.bind ?_ (fun _=>?_)
theorem impl_isNormal.calls (k:Nat) (a0:ByteArray) (r:Bool) (w:World) (h:impl_isNormal.f k a0 = some r) :
  Calls Tryd.prog 56 #[.string a0] w fun e w'=>e = .returned (.bool r) ∧ Below w.heap.size w w':=by
 have HB:=Am (Below.refl w.heap.size w)
 have H:((impl_EscNorm.f k a0).bind fun bt348=>(if bt348.2 = true then (some (bt348.1.toList == a0.toList)) else (some false))) = some r:=h
 clear h
 replace H:=bI H
 obtain ⟨⟨t348,t349⟩,A20,H⟩:=H
 replace H:(if t349 = true then (some (t348.toList == a0.toList)) else (some false)) = some r:=H
 have A2:=Am A20
 clear A20
 by_cases c3:t349 = true
 ·subst c3
  have H1:(some (t348.toList == a0.toList)) = some r:=by rw [if_pos rfl] at H;exact H
  clear H
  have H:=H1
  clear H1
  obtain rfl:=Option.some.inj H
  go_enter Tryd.func56,Tryd.ntmps56
  go_wp2_with (first|((with_reducible refine gate_callee (f:=67) rfl ?_);refine goesL_ (some 7) rfl rfl Tryd.func67 (by kernel_rfl) rfl #[.string a0] rfl (aE1 rfl) ?_;(with_reducible refine (impl_EscNorm.calls k a0 t348 true _ A2.out).mono ?_);rintro e w4 ⟨rfl,hb⟩;refine ⟨_,rfl,?_⟩;have n0_:=Am (bT (by repeat (first|(with_reducible first|exact HB.out|apply bA|apply bN|apply bD)|exact HB.out)) hb);clear HB;have HB:=n0_;clear n0_;(try clear hb)))
  go_ret
  exact ⟨by first|rfl|(simp <;> rfl)|(simp [*] <;> rfl),by repeat (first|(with_reducible first|exact HB.out|apply bA|apply bN|apply bD)|exact HB.out)⟩
 ·replace c3:=Bool.eq_false_iff.mpr c3
  subst c3
  have H1:(some false) = some r:=by rw [if_neg (show ¬ (false = true) by decide)] at H;exact H
  clear H
  have H:=H1
  clear H1
  obtain rfl:=Option.some.inj H
  go_enter Tryd.func56,Tryd.ntmps56
  go_wp2_with (first|((with_reducible refine gate_callee (f:=67) rfl ?_);refine goesL_ (some 7) rfl rfl Tryd.func67 (by kernel_rfl) rfl #[.string a0] rfl (aE1 rfl) ?_;(with_reducible refine (impl_EscNorm.calls k a0 t348 false _ A2.out).mono ?_);rintro e w5 ⟨rfl,hb⟩;refine ⟨_,rfl,?_⟩;have n0_:=Am (bT (by repeat (first|(with_reducible first|exact HB.out|apply bA|apply bN|apply bD)|exact HB.out)) hb);clear HB;have HB:=n0_;clear n0_;(try clear hb)))
  go_ret
  exact ⟨by first|rfl|(simp <;> rfl)|(simp [*] <;> rfl),by repeat (first|(with_reducible first|exact HB.out|apply bA|apply bN|apply bD)|exact HB.out)⟩

/-! ### impl_AddrOk: function 28 -/
mutual
def impl_AddrOk.j0:Nat → Bool → ByteArray → List ByteArray → Bool → ByteArray → Option (Bool)
 | 0,_,_,_,_,_=>none
 | k + 1,x14,x351000,x351001,x351002,x351003=>if x14 = true then (some false) else (impl_AddrOk.l0 k x351001 (x351001.length:Int) 0 x351000 x351001 x351002 x351003)
def impl_AddrOk.l0:Nat → List ByteArray → Int → Int → ByteArray → List ByteArray → Bool → ByteArray → Option (Bool)
 | 0,_,_,_,_,_,_,_=>none
 | k + 1,x16,x17,x18,x351000,x351001,x351002,x351003=>if x18 < x17 then (if 0 ≤ x18 then (if x18 < (x16.length:Int) then (if (rdOf ByteArray.empty x16 x18).toList = ([]:List UInt8) then (some false) else (if (rdOf ByteArray.empty x16 x18).toList = ([46]:List UInt8) then (some false) else (if (rdOf ByteArray.empty x16 x18).toList = ([46,46]:List UInt8) then (some false) else ((impl_isNormal.f k (rdOf ByteArray.empty x16 x18)).bind fun t353=>(if t353 = true then (impl_AddrOk.l0 k x16 x17 (wrap64 (x18 + 1)) x351000 x351001 x351002 x351003) else (some false)))))) else (none)) else (none)) else ((impl_isNormal.f k x351003).bind fun t354=>(if t354 = true then (if x351002 = true then ((impl_writeAddr.f x351000 x351001 x351002 x351003).bind fun t355=>(some (decide ((t355.size:Int) ≤ 60)))) else (if x351003.toList = ([]:List UInt8) then ((impl_writeAddr.f x351000 x351001 x351002 x351003).bind fun t356=>(some (decide ((t356.size:Int) ≤ 60)))) else (some false))) else (some false)))
end
def impl_AddrOk.f (k:Nat) (a0_0:ByteArray) (l0_1:List ByteArray) (a0_2:Bool) (a0_3:ByteArray):Option (Bool):=(impl_isHouse.f k a0_0).bind fun t351=>(if t351 = true then (impl_AddrOk.j0 k (decide ((l0_1.length:Int) > 5)) a0_0 l0_1 a0_2 a0_3) else (impl_AddrOk.j0 k true a0_0 l0_1 a0_2 a0_3))
theorem impl_AddrOk.mono_l:∀ k,(∀ y0 y1 y2 y3 y4,LeO (impl_AddrOk.j0 k y0 y1 y2 y3 y4) (impl_AddrOk.j0 (k + 1) y0 y1 y2 y3 y4)) ∧ (∀ y0 y1 y2 y3 y4 y5 y6,LeO (impl_AddrOk.l0 k y0 y1 y2 y3 y4 y5 y6) (impl_AddrOk.l0 (k + 1) y0 y1 y2 y3 y4 y5 y6))
 | 0=>⟨fun _ _ _ _ _ r h=>by simp [impl_AddrOk.j0] at h,fun _ _ _ _ _ _ _ r h=>by simp [impl_AddrOk.l0] at h⟩
 | k + 1=>by
  obtain ⟨ih0,ih1⟩:=impl_AddrOk.mono_l k
  refine ⟨?_,?_⟩
  ·intro y0 y1 y2 y3 y4
   unfold impl_AddrOk.j0
   repeat' first
   | (with_reducible apply ih0)
   | (with_reducible apply ih1)
   | (with_reducible apply impl_isHouse.mono)
   | (with_reducible apply impl_isNormal.mono)
   | (with_reducible exact LeO.refl _)
   | (with_reducible exact LeO.none _)
   | (with_reducible refine LeO.ite ?_ ?_)
   | (with_reducible refine LeO.bind ?_ (fun _=>?_))
   | exact ih0 _ _ _ _ _
   | exact ih1 _ _ _ _ _ _ _
   | exact impl_isHouse.mono _ _
   | exact impl_isNormal.mono _ _
   | exact LeO.none _
   | refine LeO.ite ?_ ?_
   | refine LeO.bind ?_ (fun _=>?_)
  ·intro y0 y1 y2 y3 y4 y5 y6
   unfold impl_AddrOk.l0
   repeat' first
   | (with_reducible apply ih0)
   | (with_reducible apply ih1)
   | (with_reducible apply impl_isHouse.mono)
   | (with_reducible apply impl_isNormal.mono)
   | (with_reducible exact LeO.refl _)
   | (with_reducible exact LeO.none _)
   | (with_reducible refine LeO.ite ?_ ?_)
   | (with_reducible refine LeO.bind ?_ (fun _=>?_))
   | exact ih0 _ _ _ _ _
   | exact ih1 _ _ _ _ _ _ _
   | exact impl_isHouse.mono _ _
   | exact impl_isNormal.mono _ _
   | exact LeO.none _
   | refine LeO.ite ?_ ?_
   | refine LeO.bind ?_ (fun _=>?_)
theorem impl_AddrOk.mono:∀ a0 a1 a2 a3 k,LeO (impl_AddrOk.f k a0 a1 a2 a3) (impl_AddrOk.f (k + 1) a0 a1 a2 a3):=by
 intro a0 a1 a2 a3 k
 obtain ⟨ih0,ih1⟩:=impl_AddrOk.mono_l k
 unfold impl_AddrOk.f
 repeat' first
   | (with_reducible apply ih0)
   | (with_reducible apply ih1)
   | (with_reducible apply impl_isHouse.mono)
   | (with_reducible apply impl_isNormal.mono)
   | (with_reducible exact LeO.refl _)
   | (with_reducible exact LeO.none _)
   | (with_reducible refine LeO.ite ?_ ?_)
   | (with_reducible refine LeO.bind ?_ (fun _=>?_))
   | exact ih0 _ _ _ _ _
   | exact ih1 _ _ _ _ _ _ _
   | exact impl_isHouse.mono _ _
   | exact impl_isNormal.mono _ _
   | exact LeO.none _
   | refine LeO.ite ?_ ?_
   | refine LeO.bind ?_ (fun _=>?_)
theorem impl_AddrOk.calls (k:Nat) (a0_0:ByteArray) (A0_1:Option Addr) (c0_1:Nat) (l0_1:List ByteArray) (a0_2:Bool) (a0_3:ByteArray) (r:Bool) (w:World) (hr0_1:Kd.C Kd.string w A0_1 l0_1.length l0_1) (hc0_1:l0_1.length ≤ c0_1) (h:impl_AddrOk.f k a0_0 l0_1 a0_2 a0_3 = some r) :
  Calls Tryd.prog 28 #[.agg #[.string a0_0, .slice A0_1 l0_1.length c0_1, .bool a0_2, .string a0_3]] w fun e w'=>e = .returned (.bool r) ∧ Below w.heap.size w w':=by
 have hu25:=Tryd.underlying25
 have HR0_1:=Am hr0_1
 have HC0_1:=Am hc0_1
 clear hr0_1 hc0_1
 have HB:=Am (Below.refl w.heap.size w)
 have H:((impl_isHouse.f k a0_0).bind fun t351=>(if t351 = true then (impl_AddrOk.j0 k (decide ((l0_1.length:Int) > 5)) a0_0 l0_1 a0_2 a0_3) else (impl_AddrOk.j0 k true a0_0 l0_1 a0_2 a0_3))) = some r:=h
 clear h
 have HC2:=Am H
 clear H
 go_enter Tryd.func28,Tryd.ntmps28
 go_upto_region 1 with (first|((with_reducible refine gate_dst (N:=1) rfl ?_);(try (refine gate_guard (by rfl) ?_;dsimp only));refine box_event ?hg (N:=1) ?hd (cs:=#[.string a0_0, .slice A0_1 l0_1.length c0_1, .bool a0_2, .string a0_3]) (t:=25) ?hr ?_;(case hd=>rfl);(case hg=>rfl);(case hr=>(go_simp <;> rfl));intro gb350 hg w3 hbox hb;have n0_:=Am (bT (by repeat (first|(with_reducible first|exact HB.out|apply bA|apply bN|apply bD)|exact HB.out)) hb);have n1_:=Am (hbox);have n2_:=Am ((by rw [hg];exact (bU (by repeat (first|(with_reducible first|exact HB.out|apply bA|apply bN|apply bD)|exact HB.out))):w.heap.size ≤ gb350));have n3_:=n2_;clear HB;have HB:=n0_;have BK350:=n1_;have GW350:=n2_;have GE350:=n3_;clear n0_ n1_ n2_ n3_ hb hbox hg))
 (try simp only [Act.put,List.setIfInBounds_toArray,List.set_cons_zero,List.set_cons_succ])
 go_cut [14] (fun v14 wc=>∃ (kq:Nat) (x14_1:Bool),v14 = .bool x14_1 ∧ Aside0 (impl_AddrOk.j0 kq x14_1 a0_0 l0_1 a0_2 a0_3 = some r) ∧ Aside0 (kq ≤ k) ∧ Aside0 (wc.heap[gb350]? = some (.cells #[.string a0_0,(.slice A0_1 l0_1.length c0_1), .bool a0_2, .string a0_3] 25 (0,0))) ∧ Aside0 (Below w.heap.size w wc))
 case first =>
  have H:=HC2.out
  clear HC2
  replace H:=bI H
  obtain ⟨t351,A40,H⟩:=H
  replace H:(if t351 = true then (impl_AddrOk.j0 k (decide ((l0_1.length:Int) > 5)) a0_0 l0_1 a0_2 a0_3) else (impl_AddrOk.j0 k true a0_0 l0_1 a0_2 a0_3)) = some r:=H
  have A4:=Am A40
  clear A40
  by_cases c5:t351 = true
  ·subst c5
   have H1:(impl_AddrOk.j0 k (decide ((l0_1.length:Int) > 5)) a0_0 l0_1 a0_2 a0_3) = some r:=by rw [if_pos rfl] at H;exact H
   clear H
   have H:=H1
   clear H1
   have H':=Am H
   clear H
   have hcz6_0:w3.cell? ⟨gb350,0,none⟩ = some (.string a0_0):=bM BK350.out 0 rfl
   have hcz6_1:w3.cell? ⟨gb350,1,none⟩ = some (.slice A0_1 l0_1.length c0_1):=bM BK350.out 1 rfl
   have hcz6_2:w3.cell? ⟨gb350,2,none⟩ = some (.bool a0_2):=bM BK350.out 2 rfl
   have hcz6_3:w3.cell? ⟨gb350,3,none⟩ = some (.string a0_3):=bM BK350.out 3 rfl
   have hfz6_0:=bZ BK350.out 0
   have hfz6_1:=bZ BK350.out 1
   have hfz6_2:=bZ BK350.out 2
   have hfz6_3:=bZ BK350.out 3
   go_wp2_with (first|((with_reducible refine gate_callee (f:=55) rfl ?_);refine goesL_ (some 7) rfl rfl Tryd.func55 (by kernel_rfl) rfl #[.string a0_0] rfl (aE1 rfl) ?_;(with_reducible refine (impl_isHouse.calls k a0_0 true _ A4.out).mono ?_);rintro e w' ⟨rfl,⟨nd,rfl⟩⟩;refine ⟨_,rfl,?_⟩))
   go_meet
   case rel=>exact ⟨_,(decide ((l0_1.length:Int) > 5)),(by first|rfl|(simp;done)|(simp only [i64_w,i32_w] <;> rfl)|(simp [*];done)|(simp [emp_bne,emp_beq];done)),H',⟨by first|omega|exact Nat.le_refl _⟩,⟨by refine bB ?_;exact BK350.out⟩,⟨by repeat (first|(with_reducible first|exact HB.out|apply bA|apply bN|apply bD|refine bS ?_ GE350.out)|exact HB.out)⟩⟩
  ·replace c5:=Bool.eq_false_iff.mpr c5
   subst c5
   have H1:(impl_AddrOk.j0 k true a0_0 l0_1 a0_2 a0_3) = some r:=by rw [if_neg (show ¬ (false = true) by decide)] at H;exact H
   clear H
   have H:=H1
   clear H1
   have H':=Am H
   clear H
   have hcz7_0:w3.cell? ⟨gb350,0,none⟩ = some (.string a0_0):=bM BK350.out 0 rfl
   have hcz7_1:w3.cell? ⟨gb350,1,none⟩ = some (.slice A0_1 l0_1.length c0_1):=bM BK350.out 1 rfl
   have hcz7_2:w3.cell? ⟨gb350,2,none⟩ = some (.bool a0_2):=bM BK350.out 2 rfl
   have hcz7_3:w3.cell? ⟨gb350,3,none⟩ = some (.string a0_3):=bM BK350.out 3 rfl
   have hfz7_0:=bZ BK350.out 0
   have hfz7_1:=bZ BK350.out 1
   have hfz7_2:=bZ BK350.out 2
   have hfz7_3:=bZ BK350.out 3
   go_wp2_with (first|((with_reducible refine gate_callee (f:=55) rfl ?_);refine goesL_ (some 7) rfl rfl Tryd.func55 (by kernel_rfl) rfl #[.string a0_0] rfl (aE1 rfl) ?_;(with_reducible refine (impl_isHouse.calls k a0_0 false _ A4.out).mono ?_);rintro e w' ⟨rfl,⟨nd,rfl⟩⟩;refine ⟨_,rfl,?_⟩))
   go_meet
   case rel=>exact ⟨_,(true),(by first|rfl|(simp;done)|(simp only [i64_w,i32_w] <;> rfl)|(simp [*];done)|(simp [emp_bne,emp_beq];done)),H',⟨by first|omega|exact Nat.le_refl _⟩,⟨by refine bB ?_;exact BK350.out⟩,⟨by repeat (first|(with_reducible first|exact HB.out|apply bA|apply bN|apply bD|refine bS ?_ GE350.out)|exact HB.out)⟩⟩
 case rest =>
  clear HC2
  try clear c2
  try clear p2
  try clear c5
  try clear hcz6_0
  try clear hcz6_1
  try clear hcz6_2
  try clear hcz6_3
  try clear hcz7_0
  try clear hcz7_1
  try clear hcz7_2
  try clear hcz7_3
  try clear hfz6_0
  try clear hfz6_1
  try clear hfz6_2
  try clear hfz6_3
  try clear hfz7_0
  try clear hfz7_1
  try clear hfz7_2
  try clear hfz7_3
  obtain ⟨kq,x14_1,rfl,HA,HJ1,BK350,HB⟩:=hcut
  cases kq with
  | zero=>exact absurd HA.out (by simp [impl_AddrOk.j0])
  | succ kj1 =>
   have H:=HA.out
   clear HA
   simp only [impl_AddrOk.j0] at H
   by_cases c8:x14_1 = true
   ·subst c8
    have H1:(some false) = some r:=by rw [if_pos rfl] at H;exact H
    clear H
    have H:=H1
    clear H1
    obtain rfl:=Option.some.inj H
    go_wp2
    go_ret
    exact ⟨by first|rfl|(simp <;> rfl)|(simp [*] <;> rfl),by repeat (first|(with_reducible first|exact HB.out|apply bA|apply bN|apply bD|refine bS ?_ GE350.out)|exact HB.out)⟩
   ·replace c8:=Bool.eq_false_iff.mpr c8
    subst c8
    have H1:(impl_AddrOk.l0 kj1 l0_1 (l0_1.length:Int) 0 a0_0 l0_1 a0_2 a0_3) = some r:=by rw [if_neg (show ¬ (false = true) by decide)] at H;exact H
    clear H
    have H:=H1
    clear H1
    have H':=Am H
    clear H
    have hcz9_0:wc.cell? ⟨gb350,0,none⟩ = some (.string a0_0):=bM BK350.out 0 rfl
    have hcz9_1:wc.cell? ⟨gb350,1,none⟩ = some (.slice A0_1 l0_1.length c0_1):=bM BK350.out 1 rfl
    have hcz9_2:wc.cell? ⟨gb350,2,none⟩ = some (.bool a0_2):=bM BK350.out 2 rfl
    have hcz9_3:wc.cell? ⟨gb350,3,none⟩ = some (.string a0_3):=bM BK350.out 3 rfl
    have hfz9_0:=bZ BK350.out 0
    have hfz9_1:=bZ BK350.out 1
    have hfz9_2:=bZ BK350.out 2
    have hfz9_3:=bZ BK350.out 3
    go_wp2
    go_loopg [18] kj1 (fun kq v18 w'=>∃ (x18_2:Int),v18 = .int .i64 x18_2 ∧ Aside0 (impl_AddrOk.l0 kq l0_1 (l0_1.length:Int) x18_2 a0_0 l0_1 a0_2 a0_3 = some r) ∧ Aside0 (kq ≤ kj1) ∧ Aside0 (w'.heap[gb350]? = some (.cells #[.string a0_0,(.slice A0_1 l0_1.length c0_1), .bool a0_2, .string a0_3] 25 (0,0))) ∧ Aside0 (Below w.heap.size w w'))
    case atStart=>exact ⟨(0),(by first|rfl|(simp;done)|(simp only [i64_w,i32_w] <;> rfl)|(simp [*];done)|(simp [emp_bne,emp_beq];done)),H',⟨Nat.le_refl _⟩,⟨by refine bB ?_;exact BK350.out⟩,⟨by repeat (first|(with_reducible first|exact HB.out|apply bA|apply bN|apply bD|refine bS ?_ GE350.out)|exact HB.out)⟩⟩
    case round =>
     clear H'
     try clear c2
     try clear p2
     try clear c5
     try clear c8
     try clear hcz6_0
     try clear hcz6_1
     try clear hcz6_2
     try clear hcz6_3
     try clear hcz7_0
     try clear hcz7_1
     try clear hcz7_2
     try clear hcz7_3
     try clear hcz9_0
     try clear hcz9_1
     try clear hcz9_2
     try clear hcz9_3
     try clear hfz6_0
     try clear hfz6_1
     try clear hfz6_2
     try clear hfz6_3
     try clear hfz7_0
     try clear hfz7_1
     try clear hfz7_2
     try clear hfz7_3
     try clear hfz9_0
     try clear hfz9_1
     try clear hfz9_2
     try clear hfz9_3
     try clear p2
     obtain ⟨x18_2,rfl,HA,HK2,BK350,HB⟩:=hrel
     cases gk with
     | zero=>exact absurd HA.out (by simp [impl_AddrOk.l0])
     | succ k2 =>
      have H:=HA.out
      clear HA
      simp only [impl_AddrOk.l0] at H
      by_cases c10:x18_2 < (l0_1.length:Int)
      ·rw [if_pos c10] at H
       have c10b0:decide (x18_2 < (l0_1.length:Int)) = true:=decide_eq_true c10
       clear c10
       by_cases c11:0 ≤ x18_2
       ·rw [if_pos c11] at H
        have c11b0:decide (0 ≤ x18_2) = true:=decide_eq_true c11
        clear c11
        by_cases c12:x18_2 < (l0_1.length:Int)
        ·rw [if_pos c12] at H
         have c12b0:decide (x18_2 < (l0_1.length:Int)) = true:=decide_eq_true c12
         clear c12
         by_cases c13:(rdOf ByteArray.empty l0_1 x18_2).toList = ([]:List UInt8)
         ·rw [if_pos c13] at H
          (try (have c13b0:(rdOf ByteArray.empty l0_1 x18_2).toList.isEmpty = true:=by simpa using c13))
          have c13b1:((rdOf ByteArray.empty l0_1 x18_2).toList == ([]:List UInt8)) = true:=beq_iff_eq.mpr c13
          have c13b2:((rdOf ByteArray.empty l0_1 x18_2).toList != ([]:List UInt8)) = false:=bne_eq_false_iff_eq.mpr c13
          clear c13
          obtain rfl:=Option.some.inj H
          have p352:0 ≤ (x18_2:Int):=oD (by assumption)
          have q352:x18_2 < (l0_1.length:Int):=oD (by assumption)
          obtain ⟨ad352,e352,hx352_0⟩:=Kd.at_string HR0_1.out x18_2 p352 q352
          cases e352
          replace hx352_0:=(HB.out.cell (World.block_lt_of_cell? w _ hx352_0)).trans hx352_0
          replace p352:=eq_true p352
          replace q352:=eq_true q352
          go_wp2
          go_ret
          exact ⟨by first|rfl|(simp <;> rfl)|(simp [*] <;> rfl),by repeat (first|(with_reducible first|exact HB.out|apply bA|apply bN|apply bD|refine bS ?_ GE350.out)|exact HB.out)⟩
         ·rw [if_neg c13] at H
          (try (have c13b0:(rdOf ByteArray.empty l0_1 x18_2).toList.isEmpty = false:=by simpa using c13))
          have c13b1:((rdOf ByteArray.empty l0_1 x18_2).toList == ([]:List UInt8)) = false:=beq_eq_false_iff_ne.mpr c13
          have c13b2:((rdOf ByteArray.empty l0_1 x18_2).toList != ([]:List UInt8)) = true:=bne_iff_ne.mpr c13
          by_cases c14:(rdOf ByteArray.empty l0_1 x18_2).toList = ([46]:List UInt8)
          ·rw [if_pos c14] at H
           have c14b0:((rdOf ByteArray.empty l0_1 x18_2).toList == ([46]:List UInt8)) = true:=beq_iff_eq.mpr c14
           have c14b1:((rdOf ByteArray.empty l0_1 x18_2).toList != ([46]:List UInt8)) = false:=bne_eq_false_iff_eq.mpr c14
           clear c14
           obtain rfl:=Option.some.inj H
           have p352:0 ≤ (x18_2:Int):=oD (by assumption)
           have q352:x18_2 < (l0_1.length:Int):=oD (by assumption)
           obtain ⟨ad352,e352,hx352_0⟩:=Kd.at_string HR0_1.out x18_2 p352 q352
           cases e352
           replace hx352_0:=(HB.out.cell (World.block_lt_of_cell? w _ hx352_0)).trans hx352_0
           replace p352:=eq_true p352
           replace q352:=eq_true q352
           go_wp2
           go_ret
           exact ⟨by first|rfl|(simp <;> rfl)|(simp [*] <;> rfl),by repeat (first|(with_reducible first|exact HB.out|apply bA|apply bN|apply bD|refine bS ?_ GE350.out)|exact HB.out)⟩
          ·rw [if_neg c14] at H
           have c14b0:((rdOf ByteArray.empty l0_1 x18_2).toList == ([46]:List UInt8)) = false:=beq_eq_false_iff_ne.mpr c14
           have c14b1:((rdOf ByteArray.empty l0_1 x18_2).toList != ([46]:List UInt8)) = true:=bne_iff_ne.mpr c14
           by_cases c15:(rdOf ByteArray.empty l0_1 x18_2).toList = ([46,46]:List UInt8)
           ·rw [if_pos c15] at H
            have c15b0:((rdOf ByteArray.empty l0_1 x18_2).toList == ([46,46]:List UInt8)) = true:=beq_iff_eq.mpr c15
            have c15b1:((rdOf ByteArray.empty l0_1 x18_2).toList != ([46,46]:List UInt8)) = false:=bne_eq_false_iff_eq.mpr c15
            clear c15
            obtain rfl:=Option.some.inj H
            have p352:0 ≤ (x18_2:Int):=oD (by assumption)
            have q352:x18_2 < (l0_1.length:Int):=oD (by assumption)
            obtain ⟨ad352,e352,hx352_0⟩:=Kd.at_string HR0_1.out x18_2 p352 q352
            cases e352
            replace hx352_0:=(HB.out.cell (World.block_lt_of_cell? w _ hx352_0)).trans hx352_0
            replace p352:=eq_true p352
            replace q352:=eq_true q352
            go_wp2
            go_ret
            exact ⟨by first|rfl|(simp <;> rfl)|(simp [*] <;> rfl),by repeat (first|(with_reducible first|exact HB.out|apply bA|apply bN|apply bD|refine bS ?_ GE350.out)|exact HB.out)⟩
           ·rw [if_neg c15] at H
            have c15b0:((rdOf ByteArray.empty l0_1 x18_2).toList == ([46,46]:List UInt8)) = false:=beq_eq_false_iff_ne.mpr c15
            have c15b1:((rdOf ByteArray.empty l0_1 x18_2).toList != ([46,46]:List UInt8)) = true:=bne_iff_ne.mpr c15
            replace H:=bI H
            obtain ⟨t353,A160,H⟩:=H
            replace H:(if t353 = true then (impl_AddrOk.l0 k2 l0_1 (l0_1.length:Int) (wrap64 (x18_2 + 1)) a0_0 l0_1 a0_2 a0_3) else (some false)) = some r:=H
            have A16:=Am A160
            clear A160
            by_cases c17:t353 = true
            ·subst c17
             have H1:(impl_AddrOk.l0 k2 l0_1 (l0_1.length:Int) (wrap64 (x18_2 + 1)) a0_0 l0_1 a0_2 a0_3) = some r:=by rw [if_pos rfl] at H;exact H
             clear H
             have H:=H1
             clear H1
             have H':=Am H
             clear H
             have p352:0 ≤ (x18_2:Int):=oD (by assumption)
             have q352:x18_2 < (l0_1.length:Int):=oD (by assumption)
             obtain ⟨ad352,e352,hx352_0⟩:=Kd.at_string HR0_1.out x18_2 p352 q352
             cases e352
             replace hx352_0:=(HB.out.cell (World.block_lt_of_cell? w _ hx352_0)).trans hx352_0
             replace p352:=eq_true p352
             replace q352:=eq_true q352
             go_wp2_with (first|(go_at_call 56;(with_reducible refine (impl_isNormal.calls k2 (rdOf ByteArray.empty l0_1 x18_2) true _ A16.out).mono ?_);rintro e w18 ⟨rfl,hb⟩;have n0_:=Am (blk_below (bB BK350.out) hb);have n1_:=Am (bT (by repeat (first|(with_reducible first|exact HB.out|apply bA|apply bN|apply bD|refine bS ?_ GE350.out)|exact HB.out)) hb);clear BK350 HB;have BK350:=n0_;have HB:=n1_;clear n0_ n1_;(try clear hb)))
             go_roundg k2
             case measure=>have:=HJ1.out;have:=HK2.out;omega
             case rel=>exact ⟨(wrap64 (x18_2 + 1)),(by first|rfl|(simp;done)|(simp only [i64_w,i32_w] <;> rfl)|(simp [*];done)|(simp [emp_bne,emp_beq];done)),H',⟨by have:=HJ1.out;have:=HK2.out;omega⟩,⟨by refine bB ?_;exact BK350.out⟩,⟨by repeat (first|(with_reducible first|exact HB.out|apply bA|apply bN|apply bD|refine bS ?_ GE350.out)|exact HB.out)⟩⟩
            ·replace c17:=Bool.eq_false_iff.mpr c17
             subst c17
             have H1:(some false) = some r:=by rw [if_neg (show ¬ (false = true) by decide)] at H;exact H
             clear H
             have H:=H1
             clear H1
             obtain rfl:=Option.some.inj H
             have p352:0 ≤ (x18_2:Int):=oD (by assumption)
             have q352:x18_2 < (l0_1.length:Int):=oD (by assumption)
             obtain ⟨ad352,e352,hx352_0⟩:=Kd.at_string HR0_1.out x18_2 p352 q352
             cases e352
             replace hx352_0:=(HB.out.cell (World.block_lt_of_cell? w _ hx352_0)).trans hx352_0
             replace p352:=eq_true p352
             replace q352:=eq_true q352
             go_wp2_with (first|(go_at_call 56;(with_reducible refine (impl_isNormal.calls k2 (rdOf ByteArray.empty l0_1 x18_2) false _ A16.out).mono ?_);rintro e w19 ⟨rfl,hb⟩;have n0_:=Am (blk_below (bB BK350.out) hb);have n1_:=Am (bT (by repeat (first|(with_reducible first|exact HB.out|apply bA|apply bN|apply bD|refine bS ?_ GE350.out)|exact HB.out)) hb);clear BK350 HB;have BK350:=n0_;have HB:=n1_;clear n0_ n1_;(try clear hb)))
             go_ret
             exact ⟨by first|rfl|(simp <;> rfl)|(simp [*] <;> rfl),by repeat (first|(with_reducible first|exact HB.out|apply bA|apply bN|apply bD|refine bS ?_ GE350.out)|exact HB.out)⟩
        ·rw [if_neg c12] at H
         exact absurd H (by simp)
       ·rw [if_neg c11] at H
        exact absurd H (by simp)
      ·rw [if_neg c10] at H
       have c10b0:decide (x18_2 < (l0_1.length:Int)) = false:=decide_eq_false c10
       clear c10
       replace H:=bI H
       obtain ⟨t354,A200,H⟩:=H
       replace H:(if t354 = true then (if a0_2 = true then ((impl_writeAddr.f a0_0 l0_1 a0_2 a0_3).bind fun t355=>(some (decide ((t355.size:Int) ≤ 60)))) else (if a0_3.toList = ([]:List UInt8) then ((impl_writeAddr.f a0_0 l0_1 a0_2 a0_3).bind fun t356=>(some (decide ((t356.size:Int) ≤ 60)))) else (some false))) else (some false)) = some r:=H
       have A20:=Am A200
       clear A200
       by_cases c21:t354 = true
       ·subst c21
        have H1:(if a0_2 = true then ((impl_writeAddr.f a0_0 l0_1 a0_2 a0_3).bind fun t355=>(some (decide ((t355.size:Int) ≤ 60)))) else (if a0_3.toList = ([]:List UInt8) then ((impl_writeAddr.f a0_0 l0_1 a0_2 a0_3).bind fun t356=>(some (decide ((t356.size:Int) ≤ 60)))) else (some false))) = some r:=by rw [if_pos rfl] at H;exact H
        clear H
        have H:=H1
        clear H1
        by_cases c22:a0_2 = true
        ·subst c22
         have H1:((impl_writeAddr.f a0_0 l0_1 true a0_3).bind fun t355=>(some (decide ((t355.size:Int) ≤ 60)))) = some r:=by rw [if_pos rfl] at H;exact H
         clear H
         have H:=H1
         clear H1
         replace H:=bI H
         obtain ⟨t355,A230,H⟩:=H
         replace H:(some (decide ((t355.size:Int) ≤ 60))) = some r:=H
         have A23:=Am A230
         clear A230
         obtain rfl:=Option.some.inj H
         have hcz24_0:wr.cell? ⟨gb350,0,none⟩ = some (.string a0_0):=bM BK350.out 0 rfl
         have hcz24_1:wr.cell? ⟨gb350,1,none⟩ = some (.slice A0_1 l0_1.length c0_1):=bM BK350.out 1 rfl
         have hcz24_2:wr.cell? ⟨gb350,2,none⟩ = some (.bool true):=bM BK350.out 2 rfl
         have hcz24_3:wr.cell? ⟨gb350,3,none⟩ = some (.string a0_3):=bM BK350.out 3 rfl
         have hfz24_0:=bZ BK350.out 0
         have hfz24_1:=bZ BK350.out 1
         have hfz24_2:=bZ BK350.out 2
         have hfz24_3:=bZ BK350.out 3
         go_wp2_with (first|((with_reducible refine gate_callee (f:=56) rfl ?_);refine goesL_ (some 40) rfl rfl Tryd.func56 (by kernel_rfl) rfl #[.string a0_3] rfl (aE1 rfl) ?_;(with_reducible refine (impl_isNormal.calls k2 a0_3 true _ A20.out).mono ?_);rintro e w25 ⟨rfl,hb⟩;refine ⟨_,rfl,?_⟩;have n0_:=Am (blk_below (bB BK350.out) hb);have n1_:=Am (bT (by repeat (first|(with_reducible first|exact HB.out|apply bA|apply bN|apply bD|refine bS ?_ GE350.out)|exact HB.out)) hb);clear BK350 HB;have BK350:=n0_;have HB:=n1_;clear n0_ n1_;(try clear hb);have hcz26_0:w25.cell? ⟨gb350,0,none⟩ = some (.string a0_0):=bM BK350.out 0 rfl;have hcz26_1:w25.cell? ⟨gb350,1,none⟩ = some (.slice A0_1 l0_1.length c0_1):=bM BK350.out 1 rfl;have hcz26_2:w25.cell? ⟨gb350,2,none⟩ = some (.bool true):=bM BK350.out 2 rfl;have hcz26_3:w25.cell? ⟨gb350,3,none⟩ = some (.string a0_3):=bM BK350.out 3 rfl;have hfz26_0:=bZ BK350.out 0;have hfz26_1:=bZ BK350.out 1;have hfz26_2:=bZ BK350.out 2;have hfz26_3:=bZ BK350.out 3)|((with_reducible refine gate_callee (f:=46) rfl ?_);refine goesL_ (some 53) rfl rfl Tryd.func46 (by kernel_rfl) rfl #[.agg #[.string a0_0, .slice A0_1 l0_1.length c0_1, .bool true, .string a0_3]] rfl (aE1 rfl) ?_;(with_reducible refine (impl_writeAddr.calls a0_0 _ _ l0_1 true a0_3 t355 _ ?side1 ?side2 A23.out).mono ?_);(case side1=>repeat (first|exact (Kd.C_below HR0_1.out HB.out)|(with_reducible refine bC ?_)));(case side2=>exact HC0_1.out);rintro e w27 ⟨rfl,hb⟩;refine ⟨_,rfl,?_⟩;have n0_:=Am (blk_below (bB BK350.out) hb);have n1_:=Am (bT (by repeat (first|(with_reducible first|exact HB.out|apply bA|apply bN|apply bD|refine bS ?_ GE350.out)|exact HB.out)) hb);clear BK350 HB;have BK350:=n0_;have HB:=n1_;clear n0_ n1_;(try clear hb)))
         go_ret
         exact ⟨by first|rfl|(simp <;> rfl)|(simp [*] <;> rfl),by repeat (first|(with_reducible first|exact HB.out|apply bA|apply bN|apply bD|refine bS ?_ GE350.out)|exact HB.out)⟩
        ·replace c22:=Bool.eq_false_iff.mpr c22
         subst c22
         have H1:(if a0_3.toList = ([]:List UInt8) then ((impl_writeAddr.f a0_0 l0_1 false a0_3).bind fun t356=>(some (decide ((t356.size:Int) ≤ 60)))) else (some false)) = some r:=by rw [if_neg (show ¬ (false = true) by decide)] at H;exact H
         clear H
         have H:=H1
         clear H1
         by_cases c28:a0_3.toList = ([]:List UInt8)
         ·rw [if_pos c28] at H
          (try (have c28b0:a0_3.toList.isEmpty = true:=by simpa using c28))
          have c28b1:(a0_3.toList == ([]:List UInt8)) = true:=beq_iff_eq.mpr c28
          have c28b2:(a0_3.toList != ([]:List UInt8)) = false:=bne_eq_false_iff_eq.mpr c28
          clear c28
          replace H:=bI H
          obtain ⟨t356,A290,H⟩:=H
          replace H:(some (decide ((t356.size:Int) ≤ 60))) = some r:=H
          have A29:=Am A290
          clear A290
          obtain rfl:=Option.some.inj H
          have hcz30_0:wr.cell? ⟨gb350,0,none⟩ = some (.string a0_0):=bM BK350.out 0 rfl
          have hcz30_1:wr.cell? ⟨gb350,1,none⟩ = some (.slice A0_1 l0_1.length c0_1):=bM BK350.out 1 rfl
          have hcz30_2:wr.cell? ⟨gb350,2,none⟩ = some (.bool false):=bM BK350.out 2 rfl
          have hcz30_3:wr.cell? ⟨gb350,3,none⟩ = some (.string a0_3):=bM BK350.out 3 rfl
          have hfz30_0:=bZ BK350.out 0
          have hfz30_1:=bZ BK350.out 1
          have hfz30_2:=bZ BK350.out 2
          have hfz30_3:=bZ BK350.out 3
          go_wp2_with (first|((with_reducible refine gate_callee (f:=56) rfl ?_);refine goesL_ (some 40) rfl rfl Tryd.func56 (by kernel_rfl) rfl #[.string a0_3] rfl (aE1 rfl) ?_;(with_reducible refine (impl_isNormal.calls k2 a0_3 true _ A20.out).mono ?_);rintro e w31 ⟨rfl,hb⟩;refine ⟨_,rfl,?_⟩;have n0_:=Am (blk_below (bB BK350.out) hb);have n1_:=Am (bT (by repeat (first|(with_reducible first|exact HB.out|apply bA|apply bN|apply bD|refine bS ?_ GE350.out)|exact HB.out)) hb);clear BK350 HB;have BK350:=n0_;have HB:=n1_;clear n0_ n1_;(try clear hb);have hcz32_0:w31.cell? ⟨gb350,0,none⟩ = some (.string a0_0):=bM BK350.out 0 rfl;have hcz32_1:w31.cell? ⟨gb350,1,none⟩ = some (.slice A0_1 l0_1.length c0_1):=bM BK350.out 1 rfl;have hcz32_2:w31.cell? ⟨gb350,2,none⟩ = some (.bool false):=bM BK350.out 2 rfl;have hcz32_3:w31.cell? ⟨gb350,3,none⟩ = some (.string a0_3):=bM BK350.out 3 rfl;have hfz32_0:=bZ BK350.out 0;have hfz32_1:=bZ BK350.out 1;have hfz32_2:=bZ BK350.out 2;have hfz32_3:=bZ BK350.out 3)|((with_reducible refine gate_callee (f:=46) rfl ?_);refine goesL_ (some 53) rfl rfl Tryd.func46 (by kernel_rfl) rfl #[.agg #[.string a0_0, .slice A0_1 l0_1.length c0_1, .bool false, .string a0_3]] rfl (aE1 rfl) ?_;(with_reducible refine (impl_writeAddr.calls a0_0 _ _ l0_1 false a0_3 t356 _ ?side1 ?side2 A29.out).mono ?_);(case side1=>repeat (first|exact (Kd.C_below HR0_1.out HB.out)|(with_reducible refine bC ?_)));(case side2=>exact HC0_1.out);rintro e w33 ⟨rfl,hb⟩;refine ⟨_,rfl,?_⟩;have n0_:=Am (blk_below (bB BK350.out) hb);have n1_:=Am (bT (by repeat (first|(with_reducible first|exact HB.out|apply bA|apply bN|apply bD|refine bS ?_ GE350.out)|exact HB.out)) hb);clear BK350 HB;have BK350:=n0_;have HB:=n1_;clear n0_ n1_;(try clear hb)))
          go_ret
          exact ⟨by first|rfl|(simp <;> rfl)|(simp [*] <;> rfl),by repeat (first|(with_reducible first|exact HB.out|apply bA|apply bN|apply bD|refine bS ?_ GE350.out)|exact HB.out)⟩
         ·rw [if_neg c28] at H
          (try (have c28b0:a0_3.toList.isEmpty = false:=by simpa using c28))
          have c28b1:(a0_3.toList == ([]:List UInt8)) = false:=beq_eq_false_iff_ne.mpr c28
          have c28b2:(a0_3.toList != ([]:List UInt8)) = true:=bne_iff_ne.mpr c28
          obtain rfl:=Option.some.inj H
          have hcz34_0:wr.cell? ⟨gb350,0,none⟩ = some (.string a0_0):=bM BK350.out 0 rfl
          have hcz34_1:wr.cell? ⟨gb350,1,none⟩ = some (.slice A0_1 l0_1.length c0_1):=bM BK350.out 1 rfl
          have hcz34_2:wr.cell? ⟨gb350,2,none⟩ = some (.bool false):=bM BK350.out 2 rfl
          have hcz34_3:wr.cell? ⟨gb350,3,none⟩ = some (.string a0_3):=bM BK350.out 3 rfl
          have hfz34_0:=bZ BK350.out 0
          have hfz34_1:=bZ BK350.out 1
          have hfz34_2:=bZ BK350.out 2
          have hfz34_3:=bZ BK350.out 3
          go_wp2_with (first|((with_reducible refine gate_callee (f:=56) rfl ?_);refine goesL_ (some 40) rfl rfl Tryd.func56 (by kernel_rfl) rfl #[.string a0_3] rfl (aE1 rfl) ?_;(with_reducible refine (impl_isNormal.calls k2 a0_3 true _ A20.out).mono ?_);rintro e w35 ⟨rfl,hb⟩;refine ⟨_,rfl,?_⟩;have n0_:=Am (blk_below (bB BK350.out) hb);have n1_:=Am (bT (by repeat (first|(with_reducible first|exact HB.out|apply bA|apply bN|apply bD|refine bS ?_ GE350.out)|exact HB.out)) hb);clear BK350 HB;have BK350:=n0_;have HB:=n1_;clear n0_ n1_;(try clear hb);have hcz36_0:w35.cell? ⟨gb350,0,none⟩ = some (.string a0_0):=bM BK350.out 0 rfl;have hcz36_1:w35.cell? ⟨gb350,1,none⟩ = some (.slice A0_1 l0_1.length c0_1):=bM BK350.out 1 rfl;have hcz36_2:w35.cell? ⟨gb350,2,none⟩ = some (.bool false):=bM BK350.out 2 rfl;have hcz36_3:w35.cell? ⟨gb350,3,none⟩ = some (.string a0_3):=bM BK350.out 3 rfl;have hfz36_0:=bZ BK350.out 0;have hfz36_1:=bZ BK350.out 1;have hfz36_2:=bZ BK350.out 2;have hfz36_3:=bZ BK350.out 3))
          go_ret
          exact ⟨by first|rfl|(simp <;> rfl)|(simp [*] <;> rfl),by repeat (first|(with_reducible first|exact HB.out|apply bA|apply bN|apply bD|refine bS ?_ GE350.out)|exact HB.out)⟩
       ·replace c21:=Bool.eq_false_iff.mpr c21
        subst c21
        have H1:(some false) = some r:=by rw [if_neg (show ¬ (false = true) by decide)] at H;exact H
        clear H
        have H:=H1
        clear H1
        obtain rfl:=Option.some.inj H
        have hcz37_0:wr.cell? ⟨gb350,0,none⟩ = some (.string a0_0):=bM BK350.out 0 rfl
        have hcz37_1:wr.cell? ⟨gb350,1,none⟩ = some (.slice A0_1 l0_1.length c0_1):=bM BK350.out 1 rfl
        have hcz37_2:wr.cell? ⟨gb350,2,none⟩ = some (.bool a0_2):=bM BK350.out 2 rfl
        have hcz37_3:wr.cell? ⟨gb350,3,none⟩ = some (.string a0_3):=bM BK350.out 3 rfl
        have hfz37_0:=bZ BK350.out 0
        have hfz37_1:=bZ BK350.out 1
        have hfz37_2:=bZ BK350.out 2
        have hfz37_3:=bZ BK350.out 3
        go_wp2_with (first|((with_reducible refine gate_callee (f:=56) rfl ?_);refine goesL_ (some 40) rfl rfl Tryd.func56 (by kernel_rfl) rfl #[.string a0_3] rfl (aE1 rfl) ?_;(with_reducible refine (impl_isNormal.calls k2 a0_3 false _ A20.out).mono ?_);rintro e w38 ⟨rfl,hb⟩;refine ⟨_,rfl,?_⟩;have n0_:=Am (blk_below (bB BK350.out) hb);have n1_:=Am (bT (by repeat (first|(with_reducible first|exact HB.out|apply bA|apply bN|apply bD|refine bS ?_ GE350.out)|exact HB.out)) hb);clear BK350 HB;have BK350:=n0_;have HB:=n1_;clear n0_ n1_;(try clear hb)))
        go_ret
        exact ⟨by first|rfl|(simp <;> rfl)|(simp [*] <;> rfl),by repeat (first|(with_reducible first|exact HB.out|apply bA|apply bN|apply bD|refine bS ?_ GE350.out)|exact HB.out)⟩

/-! ### slices_Clone_string_string: function 39 -/
def slices_Clone_string_string.f (l0:List ByteArray):Option (List ByteArray):=if l0.length * 16 ≤ 140737488355328 then some l0 else none
theorem slices_Clone_string_string.own {w:World} {base n:Nat} {v:Value} {xs:List ByteArray} (h:w.ownsRow base 9 1 v n (xs.map Value.string)) (hn:n = xs.length):Kd.R Kd.string 9 w base (fun _=>True) v xs:=by
 subst hn
 exact Kd.R_of_own h (fun _ _=>trivial)
theorem slices_Clone_string_string.calls (A0:Option Addr) (c0:Nat) (l0:List ByteArray) (r:List ByteArray) (w:World) (hr0:Kd.C Kd.string w A0 l0.length l0) (hc0:l0.length ≤ c0) (h:slices_Clone_string_string.f l0 = some r) :
  Calls Tryd.prog 39 #[.slice A0 l0.length c0] w fun e w'=>∃ v0_:Value,e = .returned (v0_) ∧ Kd.R Kd.string 9 w' w.heap.size (fun _=>True) v0_ r ∧ Below w.heap.size w w':=by
 unfold slices_Clone_string_string.f at h
 split at h
 rotate_left
 ·cases h
 rename_i hb
 obtain rfl:=Option.some.inj h
 cases l0 with
 | nil =>
  cases A0 with
  | none=>exact (Tryd.slices_Clone_string_nil 0 c0 w).mono fun e w' ⟨he,hw⟩=>⟨_,he,by rw [hw];exact Kd.R_nil _ _ _ _ _,hw ▸ Below.refl _ _⟩
  | some ad=>exact (Tryd.slices_Clone_string_zero ad c0 w).mono fun e w' ⟨v',he,ho,_,hbl⟩=>⟨v',he,slices_Clone_string_string.own (xs:=[]) ho rfl,hbl⟩
 | cons x l =>
  obtain ⟨ad,rfl,hc⟩:=hr0.2.2 (by simp)
  have hcell:∀ (j:Nat) y,(x :: l)[j]? = some y → w.cell? (ad.add j) = some (.string y):=fun j y hy=>by
   obtain ⟨c,_,hK,hcc⟩:=hc j y hy
   have hK':c = [.string y]:=hK
   subst hK'
   have:=hcc 0 _ rfl
   rwa [show j * Kd.string.sz + 0 = j by show j * 1 + 0 = j;omega] at this
  have h0:∃ u,w.cell? (ad.add 0) = some u:=⟨_,hcell 0 x rfl⟩
  have hp:=fun (j:Nat) y (hy:(x :: l)[j]? = some y)=>(strings_Join.plain (hcell j y hy) h0).1
  have hs:=(strings_Join.plain (hcell 0 x rfl) h0).2
  have:=Tryd.slices_Clone_string ad.block ad.off (x :: l).length c0 (x :: l) w (Nat.le_refl _) hb (fun j hj=>by
   rw [List.getD_eq_getElem?_getD,List.getElem?_eq_getElem hj]
   exact hp j _ (List.getElem?_eq_getElem hj))
  rw [show (⟨ad.block,ad.off,none⟩:Addr) = ad by cases ad;simp_all,List.take_length] at this
  exact this.mono fun e w' ⟨v',he,ho,_,hbl⟩=>⟨v',he,slices_Clone_string_string.own ho rfl,hbl⟩

/-! ### strings_explode: function 99 -/
def strings_explode.f (_a0:ByteArray) (_a1:Int):Option (List ByteArray):=none
theorem strings_explode.calls (a0:ByteArray) (a1:Int) (r:List ByteArray) (w:World) (h:strings_explode.f a0 a1 = some r) :
  Calls Tryd.prog 99 #[.string a0, .int .i64 a1] w fun e w'=>∃ v0_:Value,e = .returned (v0_) ∧ Kd.R Kd.string 9 w' w.heap.size (fun _=>True) v0_ r ∧ Below w.heap.size w w':=by
 cases h

/-! ### strings_Count: function 100 -/
def strings_Count.f (a0 a1:ByteArray):Option Int:=if a1.size = 1 then some (Go.Lib.countByte a0.data.toList (a1.data.toList.headD 0)) else none
set_option maxHeartbeats 1000000 in
set_option maxRecDepth 100000 in
theorem strings_Count.calls (a0 a1:ByteArray) (r:Int) (w:World) (h:strings_Count.f a0 a1 = some r) :
  Calls Tryd.prog 100 #[.string a0, .string a1] w fun e w'=>e = .returned (.int .i64 r) ∧ ∃ nd,w' = w.drewN nd:=by
 unfold strings_Count.f at h
 split at h
 rotate_left
 ·cases h
 rename_i hs
 obtain rfl:=Option.some.inj h
 clear h
 have HH:=Am (show ∀ h:0 < a1.size,((a1[0]'h).toNat:Int).toNat.toUInt8 = a1.data.toList.headD 0 by
  obtain ⟨c,rfl⟩:=Go.Lib.one_byte a1 hs
  intro _
  show ((c.toNat:Int)).toNat.toUInt8 = c
  simp)
 have h0:(((a1.size:Nat):Int) == 0) = false:=by rw [hs];rfl
 have h1:(((a1.size:Nat):Int) == 1) = true:=by rw [hs];rfl
 have hlt:0 < a1.size:=by omega
 generalize hx:a1.data.toList.headD 0 = x at HH ⊢
 clear hs hx
 go_enter Tryd.func100,Tryd.ntmps100
 go_wp2
 rw [run_callFunc_extern Tryd.func108 (by kernel_rfl) (by kernel_rfl) (by kernel_rfl) (e:=Extern.BytealgCount.count) (by kernel_rfl),Go.Lib.run_countString,HH.out hlt]
 simp only [Result.andThen]
 rw [Oper.upon_value]
 go_wp2
 go_ret
 exact ⟨rfl,0,rfl⟩

/-! ### strings_Index: function 101 -/
def strings_Index.f (a0:ByteArray) (a1:ByteArray):Option (Int):=(stringslite_Index.f a0 a1).bind fun t357=>(some t357)
theorem strings_Index.calls (a0:ByteArray) (a1:ByteArray) (r:Int) (w:World) (h:strings_Index.f a0 a1 = some r) :
  Calls Tryd.prog 101 #[.string a0, .string a1] w fun e w'=>e = .returned (.int .i64 r) ∧ Drawn0 w w':=by
 have H:((stringslite_Index.f a0 a1).bind fun t357=>(some t357)) = some r:=h
 clear h
 replace H:=bI H
 obtain ⟨t357,A30,H⟩:=H
 replace H:(some t357) = some r:=H
 have A3:=Am A30
 clear A30
 obtain rfl:=Option.some.inj H
 go_enter Tryd.func101,Tryd.ntmps101
 go_wp2_with (first|((with_reducible refine gate_callee (f:=80) rfl ?_);refine goesL_ (some 7) rfl rfl Tryd.func80 (by kernel_rfl) rfl #[.string a0, .string a1] rfl (aE2 rfl rfl) ?_;(with_reducible refine (stringslite_Index.calls a0 a1 t357 _ A3.out).mono ?_);rintro e w' ⟨rfl,⟨nd,rfl⟩⟩;refine ⟨_,rfl,?_⟩))
 go_ret
 exact ⟨by first|rfl|(simp;done)|(simp only [i64_w,i32_w] <;> rfl)|(simp [*];done)|(simp [emp_bne,emp_beq];done),by repeat (first|exact Drawn0.refl _|apply Drawn0.step)⟩

/-! ### strings_genSplit: function 88 -/
mutual
def strings_genSplit.j0:Nat → ByteArray → ByteArray → Int → Int → Option (List ByteArray)
 | 0,_,_,_,_=>none
 | k + 1,x0,x1,x2,x3=>if 0 ≤ (mn x3 (wrap64 ((x0.size:Int) + 1))) then (if (mn x3 (wrap64 ((x0.size:Int) + 1)):Int).toNat ≤ 17592186044416 then (strings_genSplit.l0 k x0 x1 x2 (wrap64 ((mn x3 (wrap64 ((x0.size:Int) + 1))) - 1)) (List.replicate (mn x3 (wrap64 ((x0.size:Int) + 1)):Int).toNat (⟨#[]⟩:ByteArray)) 0) else (none)) else (none)
def strings_genSplit.l0:Nat → ByteArray → ByteArray → Int → Int → List ByteArray → Int → Option (List ByteArray)
 | 0,_,_,_,_,_,_=>none
 | k + 1,x0,x1,x2,x3,x9,x10=>if x10 < x3 then ((strings_Index.f x0 x1).bind fun t365=>(if t365 < 0 then (if 0 ≤ x10 then (if x10 < (x9.length:Int) then (if 0 ≤ (wrap64 (x10 + 1)) then (if (wrap64 (x10 + 1)) ≤ (x9.length:Int) then (some ((x9.set (x10:Int).toNat x0).take ((wrap64 (x10 + 1)):Int).toNat)) else (none)) else (none)) else (none)) else (none)) else (if 0 ≤ (wrap64 (t365 + x2)) then (if (wrap64 (t365 + x2)) ≤ (x0.size:Int) then (if 0 ≤ x10 then (if x10 < (x9.length:Int) then (if 0 ≤ (wrap64 (t365 + (x1.size:Int))) then (if (wrap64 (t365 + (x1.size:Int))) ≤ (x0.size:Int) then (strings_genSplit.l0 k (x0.extract ((wrap64 (t365 + (x1.size:Int))):Int).toNat x0.size) x1 x2 x3 (x9.set (x10:Int).toNat (x0.extract 0 ((wrap64 (t365 + x2)):Int).toNat)) (wrap64 (x10 + 1))) else (none)) else (none)) else (none)) else (none)) else (none)) else (none)))) else (if 0 ≤ x10 then (if x10 < (x9.length:Int) then (if 0 ≤ (wrap64 (x10 + 1)) then (if (wrap64 (x10 + 1)) ≤ (x9.length:Int) then (some ((x9.set (x10:Int).toNat x0).take ((wrap64 (x10 + 1)):Int).toNat)) else (none)) else (none)) else (none)) else (none))
end
def strings_genSplit.f (k:Nat) (a0:ByteArray) (a1:ByteArray) (a2:Int) (a3:Int):Option (List ByteArray):=if a3 = 0 then (some ([]:List ByteArray)) else (if a1.toList = ([]:List UInt8) then ((strings_explode.f a0 a3).bind fun t358=>(some t358)) else (if a3 < 0 then ((strings_Count.f a0 a1).bind fun t361=>(strings_genSplit.j0 k a0 a1 a2 (wrap64 (t361 + 1)))) else (strings_genSplit.j0 k a0 a1 a2 a3)))
theorem strings_genSplit.mono_l:∀ k,(∀ y0 y1 y2 y3,LeO (strings_genSplit.j0 k y0 y1 y2 y3) (strings_genSplit.j0 (k + 1) y0 y1 y2 y3)) ∧ (∀ y0 y1 y2 y3 y4 y5,LeO (strings_genSplit.l0 k y0 y1 y2 y3 y4 y5) (strings_genSplit.l0 (k + 1) y0 y1 y2 y3 y4 y5))
 | 0=>⟨fun _ _ _ _ r h=>by simp [strings_genSplit.j0] at h,fun _ _ _ _ _ _ r h=>by simp [strings_genSplit.l0] at h⟩
 | k + 1=>by
  obtain ⟨ih0,ih1⟩:=strings_genSplit.mono_l k
  refine ⟨?_,?_⟩
  ·intro y0 y1 y2 y3
   unfold strings_genSplit.j0
   repeat' first
   | (with_reducible apply ih0)
   | (with_reducible apply ih1)
   | (with_reducible exact LeO.refl _)
   | (with_reducible exact LeO.none _)
   | (with_reducible refine LeO.ite ?_ ?_)
   | (with_reducible refine LeO.bind ?_ (fun _=>?_))
   | exact ih0 _ _ _ _
   | exact ih1 _ _ _ _ _ _
   | exact LeO.none _
   | refine LeO.ite ?_ ?_
   | refine LeO.bind ?_ (fun _=>?_)
  ·intro y0 y1 y2 y3 y4 y5
   unfold strings_genSplit.l0
   repeat' first
   | (with_reducible apply ih0)
   | (with_reducible apply ih1)
   | (with_reducible exact LeO.refl _)
   | (with_reducible exact LeO.none _)
   | (with_reducible refine LeO.ite ?_ ?_)
   | (with_reducible refine LeO.bind ?_ (fun _=>?_))
   | exact ih0 _ _ _ _
   | exact ih1 _ _ _ _ _ _
   | exact LeO.none _
   | refine LeO.ite ?_ ?_
   | refine LeO.bind ?_ (fun _=>?_)
theorem strings_genSplit.mono:∀ a0 a1 a2 a3 k,LeO (strings_genSplit.f k a0 a1 a2 a3) (strings_genSplit.f (k + 1) a0 a1 a2 a3):=by
 intro a0 a1 a2 a3 k
 obtain ⟨ih0,ih1⟩:=strings_genSplit.mono_l k
 unfold strings_genSplit.f
 repeat' first
   | (with_reducible apply ih0)
   | (with_reducible apply ih1)
   | (with_reducible exact LeO.refl _)
   | (with_reducible exact LeO.none _)
   | (with_reducible refine LeO.ite ?_ ?_)
   | (with_reducible refine LeO.bind ?_ (fun _=>?_))
   | exact ih0 _ _ _ _
   | exact ih1 _ _ _ _ _ _
   | exact LeO.none _
   | refine LeO.ite ?_ ?_
   | refine LeO.bind ?_ (fun _=>?_)
theorem strings_genSplit.calls (k:Nat) (a0:ByteArray) (a1:ByteArray) (a2:Int) (a3:Int) (r:List ByteArray) (w:World) (h:strings_genSplit.f k a0 a1 a2 a3 = some r) :
  Calls Tryd.prog 88 #[.string a0, .string a1, .int .i64 a2, .int .i64 a3] w fun e w'=>∃ v0_:Value,e = .returned (v0_) ∧ Kd.R Kd.string 9 w' w.heap.size (fun _=>True) v0_ r ∧ Below w.heap.size w w':=by
 have HB:=Am (Below.refl w.heap.size w)
 have H:(if a3 = 0 then (some ([]:List ByteArray)) else (if a1.toList = ([]:List UInt8) then ((strings_explode.f a0 a3).bind fun t358=>(some t358)) else (if a3 < 0 then ((strings_Count.f a0 a1).bind fun t361=>(strings_genSplit.j0 k a0 a1 a2 (wrap64 (t361 + 1)))) else (strings_genSplit.j0 k a0 a1 a2 a3)))) = some r:=h
 clear h
 by_cases c5:a3 = 0
 ·rw [if_pos c5] at H
  have c5b0:(a3 == 0) = true:=beq_iff_eq.mpr c5
  have c5b1:(a3 != 0) = false:=bne_eq_false_iff_eq.mpr c5
  clear c5
  obtain rfl:=Option.some.inj H
  go_enter Tryd.func88,Tryd.ntmps88
  go_wp2
  go_ret
  exact ⟨_,by first|rfl|(simp <;> rfl)|(simp [*] <;> rfl),by first|exact Kd.R_nil _ _ _ _ _|exact Kd.N_nil _ _ _ _ _|exact Kd.V_nil _ _ _ _ _|exact Kd.Q_nil _ _ _ _ _|exact Kd.S_nil _ _ _ _ _,by repeat (first|(with_reducible first|exact HB.out|apply bA|apply bN|apply bD)|exact HB.out)⟩
 ·rw [if_neg c5] at H
  have c5b0:(a3 == 0) = false:=beq_eq_false_iff_ne.mpr c5
  have c5b1:(a3 != 0) = true:=bne_iff_ne.mpr c5
  by_cases c6:a1.toList = ([]:List UInt8)
  ·rw [if_pos c6] at H
   (try (have c6b0:a1.toList.isEmpty = true:=by simpa using c6))
   have c6b1:(a1.toList == ([]:List UInt8)) = true:=beq_iff_eq.mpr c6
   have c6b2:(a1.toList != ([]:List UInt8)) = false:=bne_eq_false_iff_eq.mpr c6
   clear c6
   replace H:=bI H
   obtain ⟨t358,A70,H⟩:=H
   replace H:(some t358) = some r:=H
   have A7:=Am A70
   clear A70
   obtain rfl:=Option.some.inj H
   go_enter Tryd.func88,Tryd.ntmps88
   go_wp2_with (first|((with_reducible refine gate_callee (f:=99) rfl ?_);refine goesL_ (some 18) rfl rfl Tryd.func99 (by kernel_rfl) rfl #[.string a0, .int .i64 a3] rfl (aE2 rfl rfl) ?_;(with_reducible refine (strings_explode.calls a0 a3 t358 _ A7.out).mono ?_);rintro e w8 ⟨v359,rfl,ho0,hb⟩;refine ⟨_,rfl,?_⟩;have n0_:=Am (Kd.R_lower ho0 (bU (by repeat (first|(with_reducible first|exact HB.out|apply bA|apply bN|apply bD)|exact HB.out))));have n1_:=Am (bT (by repeat (first|(with_reducible first|exact HB.out|apply bA|apply bN|apply bD)|exact HB.out)) hb);clear HB;have HO360:=n0_;have HB:=n1_;clear n0_ n1_;(try clear hb);(try clear ho0)))
   go_ret
   exact ⟨_,by first|rfl|(simp <;> rfl)|(simp [*] <;> rfl),by (with_reducible repeat (first|apply rA|apply rN|apply rD));exact HO360.out,by repeat (first|(with_reducible first|exact HB.out|apply bA|apply bN|apply bD)|exact HB.out)⟩
  ·rw [if_neg c6] at H
   (try (have c6b0:a1.toList.isEmpty = false:=by simpa using c6))
   have c6b1:(a1.toList == ([]:List UInt8)) = false:=beq_eq_false_iff_ne.mpr c6
   have c6b2:(a1.toList != ([]:List UInt8)) = true:=bne_iff_ne.mpr c6
   have HC9:=Am H
   clear H
   go_enter Tryd.func88,Tryd.ntmps88
   go_upto_if 20 with (fail)
   go_cut [3] (fun v3 wc=>∃ (kq:Nat) (x3_8:Int),v3 = .int .i64 x3_8 ∧ Aside0 (strings_genSplit.j0 kq a0 a1 a2 x3_8 = some r) ∧ Aside0 (kq ≤ k) ∧ Aside0 (Below w.heap.size w wc))
   case first =>
    have H:=HC9.out
    clear HC9
    by_cases c10:a3 < 0
    ·rw [if_pos c10] at H
     have c10b0:decide (a3 < 0) = true:=decide_eq_true c10
     clear c10
     (first|rw [c10b0]|(simp only [i64_w,i32_w];rw [c10b0])|skip)
     replace H:=bI H
     obtain ⟨t361,A110,H⟩:=H
     replace H:(strings_genSplit.j0 k a0 a1 a2 (wrap64 (t361 + 1))) = some r:=H
     have A11:=Am A110
     clear A110
     have H':=Am H
     clear H
     go_wp2_with (first|((with_reducible refine gate_callee (f:=100) rfl ?_);refine goesL_ (some 23) rfl rfl Tryd.func100 (by kernel_rfl) rfl #[.string a0, .string a1] rfl (aE2 rfl rfl) ?_;(with_reducible refine (strings_Count.calls a0 a1 t361 _ A11.out).mono ?_);rintro e w' ⟨rfl,⟨nd,rfl⟩⟩;refine ⟨_,rfl,?_⟩))
     go_meet
     case rel=>exact ⟨_,(wrap64 (t361 + 1)),(by first|rfl|(simp;done)|(simp only [i64_w,i32_w] <;> rfl)|(simp [*];done)|(simp [emp_bne,emp_beq];done)),H',⟨by first|omega|exact Nat.le_refl _⟩,⟨by repeat (first|(with_reducible first|exact HB.out|apply bA|apply bN|apply bD)|exact HB.out)⟩⟩
    ·rw [if_neg c10] at H
     have c10b0:decide (a3 < 0) = false:=decide_eq_false c10
     clear c10
     (first|rw [c10b0]|(simp only [i64_w,i32_w];rw [c10b0])|skip)
     have H':=Am H
     clear H
     go_wp2
     go_meet
     case rel=>exact ⟨_,(a3),(by first|rfl|(simp;done)|(simp only [i64_w,i32_w] <;> rfl)|(simp [*];done)|(simp [emp_bne,emp_beq];done)),H',⟨by first|omega|exact Nat.le_refl _⟩,⟨by repeat (first|(with_reducible first|exact HB.out|apply bA|apply bN|apply bD)|exact HB.out)⟩⟩
   case rest =>
    clear HC9
    try clear c1
    try clear p2
    try clear c5
    try clear c5b0
    try clear c5b1
    try clear c6
    try clear c6b0
    try clear c6b1
    try clear c6b2
    try clear p6
    try clear c8
    try clear c9
    try clear c10
    try clear c10b0
    obtain ⟨kq,x3_8,rfl,HA,HJ8,HB⟩:=hcut
    cases kq with
    | zero=>exact absurd HA.out (by simp [strings_genSplit.j0])
    | succ kj8 =>
     have H:=HA.out
     clear HA
     simp only [strings_genSplit.j0] at H
     obtain ⟨ji12,hji12⟩:∃ j_:Int,(mn x3_8 (wrap64 ((a0.size:Int) + 1))) = j_:=⟨_,rfl⟩
     replace H:(if 0 ≤ (ji12) then (if (ji12:Int).toNat ≤ 17592186044416 then (strings_genSplit.l0 kj8 a0 a1 a2 (wrap64 ((ji12) - 1)) (List.replicate (ji12:Int).toNat (⟨#[]⟩:ByteArray)) 0) else (none)) else (none)) = some r:=by first|(rw [hji12] at H;exact H)|(simp only [hji12] at H ⊢;exact H)
     have hji12_:(if (wrap64 ((a0.size:Int) + 1)) < x3_8 then (wrap64 ((a0.size:Int) + 1)) else x3_8) = ji12:=hji12
     by_cases c13:0 ≤ (ji12)
     ·rw [if_pos c13] at H
      have c13b0:=eq_true c13
      have c13b1:=decide_eq_true c13
      clear c13
      by_cases c14:(ji12:Int).toNat ≤ 17592186044416
      ·rw [if_pos c14] at H
       have c14b0:=eq_true c14
       have c14b1:=decide_eq_true c14
       clear c14
       obtain ⟨y362,hy362⟩:∃ y_:List ByteArray,y_ = (List.replicate (ji12:Int).toNat (⟨#[]⟩:ByteArray)):=⟨_,rfl⟩
       replace H:(strings_genSplit.l0 kj8 a0 a1 a2 (wrap64 ((ji12) - 1)) y362 0) = some r:=by first|(rw [hy362];with_reducible exact H)|(have H2_:=(Option.bind_some _ _).symm.trans H;rw [hy362];with_reducible exact H2_)|(have H2_:=(Option.bind_some _ _).symm.trans H;with_reducible exact H2_)|with_reducible exact H|(rw [hy362];exact H)|exact H
       have Ny362:=Am hy362
       clear hy362
       have H':=Am H
       clear H
       go_wp2_with (first|((with_reducible refine gate_dst (N:=31) rfl ?_);refine Kd.R_make Kd.string _ 9 rfl (N:=31) rfl 23 _ _ rfl ji12 rfl rfl Tryd.underlying23 (.string ⟨#[]⟩) 16 info9 rfl (by decide) (by omega) (⟨#[]⟩:ByteArray) (ok:=fun _=>True) (okp:=fun _=>True) rfl (fun _ hk=>hk) trivial (oD (by assumption)) (Nat.le_trans (Nat.mul_le_mul_right _ (oD (by assumption):ji12.toNat ≤ 17592186044416)) (by omega)) (Below.refl _ _) (Nat.le_refl _) ?_;intro v363 w15 ho16 hb hg_ hnew_;clear hg_ hnew_;(first|rw [← Ny362.out] at ho16|(simp only [Int.reduceToNat] at ho16;rw [← Ny362.out] at ho16));have n0_:=Am (Kd.R_lower ho16 (bU (by repeat (first|(with_reducible first|exact HB.out|apply bA|apply bN|apply bD)|exact HB.out))));have n1_:=Am (bT (by repeat (first|(with_reducible first|exact HB.out|apply bA|apply bN|apply bD)|exact HB.out)) hb);clear HB;have HO364:=n0_;have HB:=n1_;clear n0_ n1_ hb ho16))
       go_loopg [0,10] kj8 (fun kq v0 v10 w'=>∃ (x0_2:ByteArray) (x9_2:List ByteArray) (x10_2:Int),v0 = .string x0_2 ∧ v10 = .int .i64 x10_2 ∧ Aside0 (strings_genSplit.l0 kq x0_2 a1 a2 (wrap64 ((ji12) - 1)) x9_2 x10_2 = some r) ∧ Aside0 (kq ≤ kj8) ∧ Aside0 (Kd.R Kd.string 9 w' w.heap.size (fun _=>True) v363 x9_2) ∧ Aside0 (Below w.heap.size w w'))
       case atStart=>exact ⟨(a0),(y362),(0),(by first|rfl|(simp;done)|(simp only [i64_w,i32_w] <;> rfl)|(simp [*];done)|(simp [emp_bne,emp_beq];done)),(by first|rfl|(simp;done)|(simp only [i64_w,i32_w] <;> rfl)|(simp [*];done)|(simp [emp_bne,emp_beq];done)),H',⟨Nat.le_refl _⟩,⟨by (with_reducible repeat (first|apply rA|apply rN|apply rD));exact HO364.out⟩,⟨by repeat (first|(with_reducible first|exact HB.out|apply bA|apply bN|apply bD)|exact HB.out)⟩⟩
       case round =>
        clear H'
        try clear c1
        try clear p2
        try clear c5
        try clear c5b0
        try clear c5b1
        try clear c6
        try clear c6b0
        try clear c6b1
        try clear c6b2
        try clear p6
        try clear c8
        try clear c9
        try clear c10
        try clear c10b0
        try clear c13
        try clear c13b0
        try clear c13b1
        try clear c14
        try clear c14b0
        try clear c14b1
        try clear p2
        try clear p6
        obtain ⟨x0_2,x9_2,x10_2,rfl,rfl,HA,HK2,HO_9,HB⟩:=hrel
        cases gk with
        | zero=>exact absurd HA.out (by simp [strings_genSplit.l0])
        | succ k2 =>
         have H:=HA.out
         clear HA
         simp only [strings_genSplit.l0] at H
         by_cases c17:x10_2 < (wrap64 ((ji12) - 1))
         ·rw [if_pos c17] at H
          have c17b0:decide (x10_2 < (wrap64 ((ji12) - 1))) = true:=decide_eq_true c17
          clear c17
          replace H:=bI H
          obtain ⟨t365,A180,H⟩:=H
          replace H:(if t365 < 0 then (if 0 ≤ x10_2 then (if x10_2 < (x9_2.length:Int) then (if 0 ≤ (wrap64 (x10_2 + 1)) then (if (wrap64 (x10_2 + 1)) ≤ (x9_2.length:Int) then (some ((x9_2.set (x10_2:Int).toNat x0_2).take ((wrap64 (x10_2 + 1)):Int).toNat)) else (none)) else (none)) else (none)) else (none)) else (if 0 ≤ (wrap64 (t365 + a2)) then (if (wrap64 (t365 + a2)) ≤ (x0_2.size:Int) then (if 0 ≤ x10_2 then (if x10_2 < (x9_2.length:Int) then (if 0 ≤ (wrap64 (t365 + (a1.size:Int))) then (if (wrap64 (t365 + (a1.size:Int))) ≤ (x0_2.size:Int) then (strings_genSplit.l0 k2 (x0_2.extract ((wrap64 (t365 + (a1.size:Int))):Int).toNat x0_2.size) a1 a2 (wrap64 ((ji12) - 1)) (x9_2.set (x10_2:Int).toNat (x0_2.extract 0 ((wrap64 (t365 + a2)):Int).toNat)) (wrap64 (x10_2 + 1))) else (none)) else (none)) else (none)) else (none)) else (none)) else (none))) = some r:=H
          have A18:=Am A180
          clear A180
          by_cases c19:t365 < 0
          ·rw [if_pos c19] at H
           have c19b0:decide (t365 < 0) = true:=decide_eq_true c19
           clear c19
           by_cases c20:0 ≤ x10_2
           ·rw [if_pos c20] at H
            have c20b0:decide (0 ≤ x10_2) = true:=decide_eq_true c20
            clear c20
            by_cases c21:x10_2 < (x9_2.length:Int)
            ·rw [if_pos c21] at H
             have c21b0:decide (x10_2 < (x9_2.length:Int)) = true:=decide_eq_true c21
             clear c21
             obtain ⟨y366,hy366⟩:∃ y_:List ByteArray,y_ = (x9_2.set (x10_2:Int).toNat x0_2):=⟨_,rfl⟩
             replace H:(if 0 ≤ (wrap64 (x10_2 + 1)) then (if (wrap64 (x10_2 + 1)) ≤ (x9_2.length:Int) then (some (y366.take ((wrap64 (x10_2 + 1)):Int).toNat)) else (none)) else (none)) = some r:=by first|(rw [hy366];with_reducible exact H)|(have H2_:=(Option.bind_some _ _).symm.trans H;rw [hy366];with_reducible exact H2_)|(have H2_:=(Option.bind_some _ _).symm.trans H;with_reducible exact H2_)|with_reducible exact H|(rw [hy366];exact H)|exact H
             have Ny366:=Am hy366
             clear hy366
             obtain ⟨ji23,hji23⟩:∃ j_:Int,(wrap64 (x10_2 + 1)) = j_:=⟨_,rfl⟩
             replace H:(if 0 ≤ (ji23) then (if (ji23) ≤ (x9_2.length:Int) then (some (y366.take ((ji23):Int).toNat)) else (none)) else (none)) = some r:=by first|(rw [hji23] at H;exact H)|(simp only [hji23] at H ⊢;exact H)
             (try rw [hji23] at A18)
             have hji23w:(IntKind.i64.wrap (x10_2 + 1)) = ji23:=(i64_w _).trans hji23
             by_cases c24:0 ≤ (ji23)
             ·rw [if_pos c24] at H
              have c24b0:=eq_true c24
              have c24b1:=decide_eq_true c24
              clear c24
              by_cases c25:(ji23) ≤ (x9_2.length:Int)
              ·rw [if_pos c25] at H
               have c25b0:=eq_true c25
               have c25b1:=decide_eq_true c25
               clear c25
               obtain ⟨y367,hy367⟩:∃ y_:List ByteArray,y_ = (y366.take ((ji23):Int).toNat):=⟨_,rfl⟩
               replace H:(some y367) = some r:=by first|(rw [hy367];with_reducible exact H)|(have H2_:=(Option.bind_some _ _).symm.trans H;rw [hy367];with_reducible exact H2_)|(have H2_:=(Option.bind_some _ _).symm.trans H;with_reducible exact H2_)|with_reducible exact H|(rw [hy367];exact H)|exact H
               have Ny367:=Am hy367
               clear hy367
               obtain rfl:=Option.some.inj H
               go_wp2_with (first|((with_reducible refine gate_callee (f:=101) rfl ?_);refine goesL_ (some 39) rfl rfl Tryd.func101 (by kernel_rfl) rfl #[.string x0_2, .string a1] rfl (aE2 rfl rfl) ?_;(with_reducible refine (strings_Index.calls x0_2 a1 t365 _ A18.out).mono ?_);rintro e w' ⟨rfl,⟨nd,rfl⟩⟩;refine ⟨_,rfl,?_⟩;(try (rw [drewN_self wr];generalize hq_:World.drewN wr _ = wr;have n0_:Aside0 (Kd.R Kd.string 9 wr w.heap.size (fun _=>True) v363 x9_2):=⟨by rw [← hq_];exact (bR HO_9.out)⟩;have n1_:Aside0 (Below w.heap.size w wr):=⟨by rw [← hq_];exact (by repeat (first|(with_reducible first|exact HB.out|apply bA|apply bN|apply bD)|exact HB.out))⟩;clear HO_9 HB hq_;have HO_9:=n0_;have HB:=n1_;clear n0_ n1_));have p22:0 ≤ (x10_2:Int):=oD (by assumption);have q22:(x10_2:Int) < ((x9_2.length:Int):Int):=oD (by assumption);obtain ⟨go22,co22,eo22,gb22,gl22,cl22,HG22⟩:=Kd.R_form HO_9.out (by omega);(first|cases eo22|(injection eo22 with ea_ en_ ec_;(first|subst ea_|(injection ea_ with ea_;subst ea_));subst ec_;clear en_));have GB22:=Am gb22;have GG22:=Am HG22;clear gb22 gl22 HG22;obtain ⟨hx22_0,hf22_0⟩:=Kd.R_celln (⟨#[]⟩:ByteArray) HO_9.out (x10_2:Int) p22 q22;replace p22:=eq_true p22;replace q22:=eq_true q22;obtain ⟨hy26_,hz26_⟩:=Kd.R_celln (⟨#[]⟩:ByteArray) HO_9.out (x10_2:Int) (oD (by assumption)) (oD (by assumption));have HP26:=Kd.R_putg HO_9.out (x10_2:Int) x0_2)|((with_reducible refine gate_store (t:=9) (p:=61) rfl ?_);refine store_event (t:=9) (p:=61) (v:=?vo_w27) (w1:=(wr.setCell ⟨go22,(x10_2:Int).toNat,none⟩ (.string x0_2))) ?hg ?ho ?hn ?hr ?_;(case ho=>rfl);(case hg=>rfl);(case hn=>rfl);(case hr=>(go_simp <;> rfl));intro w27 hw;have hg:wr.grownBy w27 (some go22):=(by rw [hw];exact HP26.2);have hp_:Kd.R Kd.string 9 w27 w.heap.size (fun _=>True) (.slice (some ⟨go22,0,none⟩) x9_2.length co22) y366:=(by rw [hw,Ny366.out];exact HP26.1);clear HP26;have n0_:=Am (hp_);have n1_:=Am ((by rw [hw];exact below_set (HB.out) GB22.out:Below w.heap.size w w27));clear HO_9 HB;have HO_9:=n0_;have HB:=n1_;clear n0_ n1_ hg hw hp_;have q28:((ji23):Int) ≤ ((x9_2.length:Int):Int):=oD (by assumption);obtain ⟨i028,hi028,_,hsz28,_⟩:=info_parts info9;have hcut28:=cut_to (P:=Tryd.prog) 23 9 .i64 Tryd.underlying23 hi028 (some ⟨go22,0,none⟩) x9_2.length co22 (ji23) (oD (by assumption)) q28 (Kd.R_reads' HO_9.out).2.1;have hn_:=(Kd.R_reads' HO_9.out).1;have hr28:=Kd.R_take (m:=((ji23):Int).toNat) HO_9.out (by omega);have hy28:y367.length = ((ji23):Int).toNat:=(by rw [Ny367.out,List.length_take];omega);clear hn_;rw [← Ny367.out] at hr28;rw [← hy28] at hr28 hcut28;clear hy28 hi028 hsz28 HO_9;have HO369:=Am hr28;clear hr28;replace q28:=eq_true q28))
               go_ret
               exact ⟨_,by first|rfl|(simp <;> rfl)|(simp only [← hji12,← hji23];first|rfl|(simp <;> rfl))|(simp [*] <;> rfl),by (with_reducible repeat (first|apply rA|apply rN|apply rD));exact HO369.out,by repeat (first|(with_reducible first|exact HB.out|apply bA|apply bN|apply bD)|exact HB.out)⟩
              ·rw [if_neg c25] at H
               exact absurd H (by simp)
             ·rw [if_neg c24] at H
              exact absurd H (by simp)
            ·rw [if_neg c21] at H
             exact absurd H (by simp)
           ·rw [if_neg c20] at H
            exact absurd H (by simp)
          ·rw [if_neg c19] at H
           have c19b0:decide (t365 < 0) = false:=decide_eq_false c19
           clear c19
           obtain ⟨ji29,hji29⟩:∃ j_:Int,(wrap64 (t365 + a2)) = j_:=⟨_,rfl⟩
           replace H:(if 0 ≤ (ji29) then (if (ji29) ≤ (x0_2.size:Int) then (if 0 ≤ x10_2 then (if x10_2 < (x9_2.length:Int) then (if 0 ≤ (wrap64 (t365 + (a1.size:Int))) then (if (wrap64 (t365 + (a1.size:Int))) ≤ (x0_2.size:Int) then (strings_genSplit.l0 k2 (x0_2.extract ((wrap64 (t365 + (a1.size:Int))):Int).toNat x0_2.size) a1 a2 (wrap64 ((ji12) - 1)) (x9_2.set (x10_2:Int).toNat (x0_2.extract 0 ((ji29):Int).toNat)) (wrap64 (x10_2 + 1))) else (none)) else (none)) else (none)) else (none)) else (none)) else (none)) = some r:=by first|(rw [hji29] at H;exact H)|(simp only [hji29] at H ⊢;exact H)
           (try rw [hji29] at A18)
           have hji29w:(IntKind.i64.wrap (t365 + a2)) = ji29:=(i64_w _).trans hji29
           by_cases c30:0 ≤ (ji29)
           ·rw [if_pos c30] at H
            have c30b0:=eq_true c30
            have c30b1:=decide_eq_true c30
            clear c30
            by_cases c31:(ji29) ≤ (x0_2.size:Int)
            ·rw [if_pos c31] at H
             have c31b0:=eq_true c31
             have c31b1:=decide_eq_true c31
             clear c31
             by_cases c32:0 ≤ x10_2
             ·rw [if_pos c32] at H
              have c32b0:decide (0 ≤ x10_2) = true:=decide_eq_true c32
              clear c32
              by_cases c33:x10_2 < (x9_2.length:Int)
              ·rw [if_pos c33] at H
               have c33b0:decide (x10_2 < (x9_2.length:Int)) = true:=decide_eq_true c33
               clear c33
               obtain ⟨y370,hy370⟩:∃ y_:List ByteArray,y_ = (x9_2.set (x10_2:Int).toNat (x0_2.extract 0 ((ji29):Int).toNat)):=⟨_,rfl⟩
               replace H:(if 0 ≤ (wrap64 (t365 + (a1.size:Int))) then (if (wrap64 (t365 + (a1.size:Int))) ≤ (x0_2.size:Int) then (strings_genSplit.l0 k2 (x0_2.extract ((wrap64 (t365 + (a1.size:Int))):Int).toNat x0_2.size) a1 a2 (wrap64 ((ji12) - 1)) y370 (wrap64 (x10_2 + 1))) else (none)) else (none)) = some r:=by first|(rw [hy370];with_reducible exact H)|(have H2_:=(Option.bind_some _ _).symm.trans H;rw [hy370];with_reducible exact H2_)|(have H2_:=(Option.bind_some _ _).symm.trans H;with_reducible exact H2_)|with_reducible exact H|(rw [hy370];exact H)|exact H
               have Ny370:=Am hy370
               clear hy370
               obtain ⟨ji35,hji35⟩:∃ j_:Int,(wrap64 (t365 + (a1.size:Int))) = j_:=⟨_,rfl⟩
               replace H:(if 0 ≤ (ji35) then (if (ji35) ≤ (x0_2.size:Int) then (strings_genSplit.l0 k2 (x0_2.extract ((ji35):Int).toNat x0_2.size) a1 a2 (wrap64 ((ji12) - 1)) y370 (wrap64 (x10_2 + 1))) else (none)) else (none)) = some r:=by first|(rw [hji35] at H;exact H)|(simp only [hji35] at H ⊢;exact H)
               (try rw [hji35] at A18)
               have hji35w:(IntKind.i64.wrap (t365 + (a1.size:Int))) = ji35:=(i64_w _).trans hji35
               by_cases c36:0 ≤ (ji35)
               ·rw [if_pos c36] at H
                have c36b0:=eq_true c36
                have c36b1:=decide_eq_true c36
                clear c36
                by_cases c37:(ji35) ≤ (x0_2.size:Int)
                ·rw [if_pos c37] at H
                 have c37b0:=eq_true c37
                 have c37b1:=decide_eq_true c37
                 clear c37
                 have H':=Am H
                 clear H
                 go_wp2_with (first|((with_reducible refine gate_callee (f:=101) rfl ?_);refine goesL_ (some 39) rfl rfl Tryd.func101 (by kernel_rfl) rfl #[.string x0_2, .string a1] rfl (aE2 rfl rfl) ?_;(with_reducible refine (strings_Index.calls x0_2 a1 t365 _ A18.out).mono ?_);rintro e w' ⟨rfl,⟨nd,rfl⟩⟩;refine ⟨_,rfl,?_⟩;(try (rw [drewN_self wr];generalize hq_:World.drewN wr _ = wr;have n0_:Aside0 (Kd.R Kd.string 9 wr w.heap.size (fun _=>True) v363 x9_2):=⟨by rw [← hq_];exact (bR HO_9.out)⟩;have n1_:Aside0 (Below w.heap.size w wr):=⟨by rw [← hq_];exact (by repeat (first|(with_reducible first|exact HB.out|apply bA|apply bN|apply bD)|exact HB.out))⟩;clear HO_9 HB hq_;have HO_9:=n0_;have HB:=n1_;clear n0_ n1_));have p34:0 ≤ (x10_2:Int):=oD (by assumption);have q34:(x10_2:Int) < ((x9_2.length:Int):Int):=oD (by assumption);obtain ⟨go34,co34,eo34,gb34,gl34,cl34,HG34⟩:=Kd.R_form HO_9.out (by omega);(first|cases eo34|(injection eo34 with ea_ en_ ec_;(first|subst ea_|(injection ea_ with ea_;subst ea_));subst ec_;clear en_));have GB34:=Am gb34;have GG34:=Am HG34;clear gb34 gl34 HG34;obtain ⟨hx34_0,hf34_0⟩:=Kd.R_celln (⟨#[]⟩:ByteArray) HO_9.out (x10_2:Int) p34 q34;replace p34:=eq_true p34;replace q34:=eq_true q34;obtain ⟨hy38_,hz38_⟩:=Kd.R_celln (⟨#[]⟩:ByteArray) HO_9.out (x10_2:Int) (oD (by assumption)) (oD (by assumption));have HP38:=Kd.R_putg HO_9.out (x10_2:Int) (x0_2.extract 0 ((ji29):Int).toNat))|((with_reducible refine gate_store (t:=9) (p:=49) rfl ?_);refine store_event (t:=9) (p:=49) (v:=?vo_w39) (w1:=(wr.setCell ⟨go34,(x10_2:Int).toNat,none⟩ (.string (x0_2.extract 0 ((ji29):Int).toNat)))) ?hg ?ho ?hn ?hr ?_;(case ho=>rfl);(case hg=>rfl);(case hn=>rfl);(case hr=>(go_simp <;> rfl));intro w39 hw;have hg:wr.grownBy w39 (some go34):=(by rw [hw];exact HP38.2);have hp_:Kd.R Kd.string 9 w39 w.heap.size (fun _=>True) (.slice (some ⟨go34,0,none⟩) x9_2.length co34) y370:=(by rw [hw,Ny370.out];exact HP38.1);clear HP38;have n0_:=Am (hp_);have n1_:=Am ((by rw [hw];exact below_set (HB.out) GB34.out:Below w.heap.size w w39));clear HO_9 HB;have HO_9:=n0_;have HB:=n1_;clear n0_ n1_ hg hw hp_))
                 go_roundg k2
                 case measure=>have:=HJ8.out;have:=HK2.out;omega
                 case rel=>exact ⟨(x0_2.extract ((ji35):Int).toNat x0_2.size),(y370),(wrap64 (x10_2 + 1)),(by first|rfl|(simp only [i64_w,i32_w] <;> rfl)|(simp;done)|(simp only [← hji35] <;> (first|rfl|simp))|(simp [*];done)),(by first|rfl|(simp;done)|(simp only [i64_w,i32_w] <;> rfl)|(simp [*];done)|(simp [emp_bne,emp_beq];done)),H',⟨by have:=HJ8.out;have:=HK2.out;omega⟩,⟨by (with_reducible repeat (first|apply rA|apply rN|apply rD));exact HO_9.out⟩,⟨by repeat (first|(with_reducible first|exact HB.out|apply bA|apply bN|apply bD)|exact HB.out)⟩⟩
                ·rw [if_neg c37] at H
                 exact absurd H (by simp)
               ·rw [if_neg c36] at H
                exact absurd H (by simp)
              ·rw [if_neg c33] at H
               exact absurd H (by simp)
             ·rw [if_neg c32] at H
              exact absurd H (by simp)
            ·rw [if_neg c31] at H
             exact absurd H (by simp)
           ·rw [if_neg c30] at H
            exact absurd H (by simp)
         ·rw [if_neg c17] at H
          have c17b0:decide (x10_2 < (wrap64 ((ji12) - 1))) = false:=decide_eq_false c17
          clear c17
          by_cases c40:0 ≤ x10_2
          ·rw [if_pos c40] at H
           have c40b0:decide (0 ≤ x10_2) = true:=decide_eq_true c40
           clear c40
           by_cases c41:x10_2 < (x9_2.length:Int)
           ·rw [if_pos c41] at H
            have c41b0:decide (x10_2 < (x9_2.length:Int)) = true:=decide_eq_true c41
            clear c41
            obtain ⟨y371,hy371⟩:∃ y_:List ByteArray,y_ = (x9_2.set (x10_2:Int).toNat x0_2):=⟨_,rfl⟩
            replace H:(if 0 ≤ (wrap64 (x10_2 + 1)) then (if (wrap64 (x10_2 + 1)) ≤ (x9_2.length:Int) then (some (y371.take ((wrap64 (x10_2 + 1)):Int).toNat)) else (none)) else (none)) = some r:=by first|(rw [hy371];with_reducible exact H)|(have H2_:=(Option.bind_some _ _).symm.trans H;rw [hy371];with_reducible exact H2_)|(have H2_:=(Option.bind_some _ _).symm.trans H;with_reducible exact H2_)|with_reducible exact H|(rw [hy371];exact H)|exact H
            have Ny371:=Am hy371
            clear hy371
            obtain ⟨ji43,hji43⟩:∃ j_:Int,(wrap64 (x10_2 + 1)) = j_:=⟨_,rfl⟩
            replace H:(if 0 ≤ (ji43) then (if (ji43) ≤ (x9_2.length:Int) then (some (y371.take ((ji43):Int).toNat)) else (none)) else (none)) = some r:=by first|(rw [hji43] at H;exact H)|(simp only [hji43] at H ⊢;exact H)
            have hji43w:(IntKind.i64.wrap (x10_2 + 1)) = ji43:=(i64_w _).trans hji43
            by_cases c44:0 ≤ (ji43)
            ·rw [if_pos c44] at H
             have c44b0:=eq_true c44
             have c44b1:=decide_eq_true c44
             clear c44
             by_cases c45:(ji43) ≤ (x9_2.length:Int)
             ·rw [if_pos c45] at H
              have c45b0:=eq_true c45
              have c45b1:=decide_eq_true c45
              clear c45
              obtain ⟨y372,hy372⟩:∃ y_:List ByteArray,y_ = (y371.take ((ji43):Int).toNat):=⟨_,rfl⟩
              replace H:(some y372) = some r:=by first|(rw [hy372];with_reducible exact H)|(have H2_:=(Option.bind_some _ _).symm.trans H;rw [hy372];with_reducible exact H2_)|(have H2_:=(Option.bind_some _ _).symm.trans H;with_reducible exact H2_)|with_reducible exact H|(rw [hy372];exact H)|exact H
              have Ny372:=Am hy372
              clear hy372
              obtain rfl:=Option.some.inj H
              have p42:0 ≤ (x10_2:Int):=oD (by assumption)
              have q42:(x10_2:Int) < ((x9_2.length:Int):Int):=oD (by assumption)
              obtain ⟨go42,co42,eo42,gb42,gl42,cl42,HG42⟩:=Kd.R_form HO_9.out (by omega)
              (first|cases eo42|(injection eo42 with ea_ en_ ec_;(first|subst ea_|(injection ea_ with ea_;subst ea_));subst ec_;clear en_))
              have GB42:=Am gb42
              have GG42:=Am HG42
              clear gb42 gl42 HG42
              obtain ⟨hx42_0,hf42_0⟩:=Kd.R_celln (⟨#[]⟩:ByteArray) HO_9.out (x10_2:Int) p42 q42
              replace p42:=eq_true p42
              replace q42:=eq_true q42
              have HP46:=Kd.R_putg HO_9.out (x10_2:Int) x0_2
              go_wp2_with (first|((with_reducible refine gate_store (t:=9) (p:=61) rfl ?_);refine store_event (t:=9) (p:=61) (v:=?vo_w47) (w1:=(wr.setCell ⟨go42,(x10_2:Int).toNat,none⟩ (.string x0_2))) ?hg ?ho ?hn ?hr ?_;(case ho=>rfl);(case hg=>rfl);(case hn=>rfl);(case hr=>(go_simp <;> rfl));intro w47 hw;have hg:wr.grownBy w47 (some go42):=(by rw [hw];exact HP46.2);have hp_:Kd.R Kd.string 9 w47 w.heap.size (fun _=>True) (.slice (some ⟨go42,0,none⟩) x9_2.length co42) y371:=(by rw [hw,Ny371.out];exact HP46.1);clear HP46;have n0_:=Am (hp_);have n1_:=Am ((by rw [hw];exact below_set (HB.out) GB42.out:Below w.heap.size w w47));clear HO_9 HB;have HO_9:=n0_;have HB:=n1_;clear n0_ n1_ hg hw hp_;have q48:((ji43):Int) ≤ ((x9_2.length:Int):Int):=oD (by assumption);obtain ⟨i048,hi048,_,hsz48,_⟩:=info_parts info9;have hcut48:=cut_to (P:=Tryd.prog) 23 9 .i64 Tryd.underlying23 hi048 (some ⟨go42,0,none⟩) x9_2.length co42 (ji43) (oD (by assumption)) q48 (Kd.R_reads' HO_9.out).2.1;have hn_:=(Kd.R_reads' HO_9.out).1;have hr48:=Kd.R_take (m:=((ji43):Int).toNat) HO_9.out (by omega);have hy48:y372.length = ((ji43):Int).toNat:=(by rw [Ny372.out,List.length_take];omega);clear hn_;rw [← Ny372.out] at hr48;rw [← hy48] at hr48 hcut48;clear hy48 hi048 hsz48 HO_9;have HO374:=Am hr48;clear hr48;replace q48:=eq_true q48))
              go_ret
              exact ⟨_,by first|rfl|(simp <;> rfl)|(simp only [← hji12,← hji43];first|rfl|(simp <;> rfl))|(simp [*] <;> rfl),by (with_reducible repeat (first|apply rA|apply rN|apply rD));exact HO374.out,by repeat (first|(with_reducible first|exact HB.out|apply bA|apply bN|apply bD)|exact HB.out)⟩
             ·rw [if_neg c45] at H
              exact absurd H (by simp)
            ·rw [if_neg c44] at H
             exact absurd H (by simp)
           ·rw [if_neg c41] at H
            exact absurd H (by simp)
          ·rw [if_neg c40] at H
           exact absurd H (by simp)
      ·rw [if_neg c14] at H
       exact absurd H (by simp)
     ·rw [if_neg c13] at H
      exact absurd H (by simp)

/-! ### strings_Split: function 68 -/
def strings_Split.f (k:Nat) (a0:ByteArray) (a1:ByteArray):Option (List ByteArray):=(strings_genSplit.f k a0 a1 0 (-1)).bind fun t375=>(some t375)
theorem strings_Split.mono:∀ a0 a1 k,LeO (strings_Split.f k a0 a1) (strings_Split.f (k + 1) a0 a1):=by
 intro a0 a1 k
 unfold strings_Split.f
 repeat' first
   | (with_reducible apply strings_genSplit.mono)
   | (with_reducible exact LeO.refl _)
   | (with_reducible exact LeO.none _)
   | (with_reducible refine LeO.ite ?_ ?_)
   | (with_reducible refine LeO.bind ?_ (fun _=>?_))
   | exact strings_genSplit.mono _ _ _ _ _
   | exact LeO.none _
   | refine LeO.ite ?_ ?_
   | refine LeO.bind ?_ (fun _=>?_)
theorem strings_Split.calls (k:Nat) (a0:ByteArray) (a1:ByteArray) (r:List ByteArray) (w:World) (h:strings_Split.f k a0 a1 = some r) :
  Calls Tryd.prog 68 #[.string a0, .string a1] w fun e w'=>∃ v0_:Value,e = .returned (v0_) ∧ Kd.R Kd.string 9 w' w.heap.size (fun _=>True) v0_ r ∧ Below w.heap.size w w':=by
 have HB:=Am (Below.refl w.heap.size w)
 have H:((strings_genSplit.f k a0 a1 0 (-1)).bind fun t375=>(some t375)) = some r:=h
 clear h
 replace H:=bI H
 obtain ⟨t375,A30,H⟩:=H
 replace H:(some t375) = some r:=H
 have A3:=Am A30
 clear A30
 obtain rfl:=Option.some.inj H
 go_enter Tryd.func68,Tryd.ntmps68
 go_wp2_with (first|((with_reducible refine gate_callee (f:=88) rfl ?_);refine goesL_ (some 7) rfl rfl Tryd.func88 (by kernel_rfl) rfl #[.string a0, .string a1, .int .i64 0, .int .i64 (-1)] rfl (by (try simp only [List.map_toArray,List.map_cons,List.map_nil]);first|done|rfl|(simp only [List.length_drop,List.length_take];rfl)) ?_;(with_reducible refine (strings_genSplit.calls k a0 a1 0 (-1) t375 _ A3.out).mono ?_);rintro e w4 ⟨v376,rfl,ho0,hb⟩;refine ⟨_,rfl,?_⟩;have n0_:=Am (Kd.R_lower ho0 (bU (by repeat (first|(with_reducible first|exact HB.out|apply bA|apply bN|apply bD)|exact HB.out))));have n1_:=Am (bT (by repeat (first|(with_reducible first|exact HB.out|apply bA|apply bN|apply bD)|exact HB.out)) hb);clear HB;have HO377:=n0_;have HB:=n1_;clear n0_ n1_;(try clear hb);(try clear ho0)))
 go_ret
 exact ⟨_,by first|rfl|(simp <;> rfl)|(simp [*] <;> rfl),by (with_reducible repeat (first|apply rA|apply rN|apply rD));exact HO377.out,by repeat (first|(with_reducible first|exact HB.out|apply bA|apply bN|apply bD)|exact HB.out)⟩

/-! ### impl_PathClean: function 69 -/
mutual
def impl_PathClean.l0:Nat → List ByteArray → List ByteArray → Int → Int → Option (List ByteArray)
 | 0,_,_,_,_=>none
 | k + 1,x3,x6,x7,x8=>if x8 < x7 then (if 0 ≤ x8 then (if x8 < (x6.length:Int) then (if (rdOf ByteArray.empty x6 x8).toList = ([]:List UInt8) then (impl_PathClean.j1 k x3 (rdOf ByteArray.empty x6 x8) x6 x7 x8 (rdOf ByteArray.empty x6 x8) ((rdOf ByteArray.empty x6 x8).toList == ([]:List UInt8))) else (impl_PathClean.j1 k x3 (rdOf ByteArray.empty x6 x8) x6 x7 x8 (rdOf ByteArray.empty x6 x8) ((rdOf ByteArray.empty x6 x8).toList == ([46]:List UInt8)))) else (none)) else (none)) else (some x3)
def impl_PathClean.j1:Nat → List ByteArray → ByteArray → List ByteArray → Int → Int → ByteArray → Bool → Option (List ByteArray)
 | 0,_,_,_,_,_,_,_=>none
 | k + 1,x3,x5,x6,x7,x8,x12,x13=>if x13 = true then (impl_PathClean.l0 k x3 x6 x7 (wrap64 (x8 + 1))) else (if x12.toList = ([46,46]:List UInt8) then (if (x3.length:Int) > 0 then (if 0 ≤ (wrap64 ((x3.length:Int) - 1)) then (if (wrap64 ((x3.length:Int) - 1)) ≤ (x3.length:Int) then (impl_PathClean.l0 k (x3.take ((wrap64 ((x3.length:Int) - 1)):Int).toNat) x6 x7 (wrap64 (x8 + 1))) else (none)) else (none)) else (impl_PathClean.l0 k x3 x6 x7 (wrap64 (x8 + 1)))) else (if x3.length < 8796093022208 then (impl_PathClean.l0 k (x3 ++ [x5]) x6 x7 (wrap64 (x8 + 1))) else (none)))
end
def impl_PathClean.f (k:Nat) (l0:List ByteArray):Option (List ByteArray):=impl_PathClean.l0 k ([]:List ByteArray) l0 (l0.length:Int) 0
theorem impl_PathClean.mono_l:∀ k,(∀ y0 y1 y2 y3,LeO (impl_PathClean.l0 k y0 y1 y2 y3) (impl_PathClean.l0 (k + 1) y0 y1 y2 y3)) ∧ (∀ y0 y1 y2 y3 y4 y5 y6,LeO (impl_PathClean.j1 k y0 y1 y2 y3 y4 y5 y6) (impl_PathClean.j1 (k + 1) y0 y1 y2 y3 y4 y5 y6))
 | 0=>⟨fun _ _ _ _ r h=>by simp [impl_PathClean.l0] at h,fun _ _ _ _ _ _ _ r h=>by simp [impl_PathClean.j1] at h⟩
 | k + 1=>by
  obtain ⟨ih0,ih1⟩:=impl_PathClean.mono_l k
  refine ⟨?_,?_⟩
  ·intro y0 y1 y2 y3
   unfold impl_PathClean.l0
   repeat' first
   | (with_reducible apply ih0)
   | (with_reducible apply ih1)
   | (with_reducible exact LeO.refl _)
   | (with_reducible exact LeO.none _)
   | (with_reducible refine LeO.ite ?_ ?_)
   | (with_reducible refine LeO.bind ?_ (fun _=>?_))
   | exact ih0 _ _ _ _
   | exact ih1 _ _ _ _ _ _ _
   | exact LeO.none _
   | refine LeO.ite ?_ ?_
   | refine LeO.bind ?_ (fun _=>?_)
  ·intro y0 y1 y2 y3 y4 y5 y6
   unfold impl_PathClean.j1
   repeat' first
   | (with_reducible apply ih0)
   | (with_reducible apply ih1)
   | (with_reducible exact LeO.refl _)
   | (with_reducible exact LeO.none _)
   | (with_reducible refine LeO.ite ?_ ?_)
   | (with_reducible refine LeO.bind ?_ (fun _=>?_))
   | exact ih0 _ _ _ _
   | exact ih1 _ _ _ _ _ _ _
   | exact LeO.none _
   | refine LeO.ite ?_ ?_
   | refine LeO.bind ?_ (fun _=>?_)
theorem impl_PathClean.mono:∀ a0 k,LeO (impl_PathClean.f k a0) (impl_PathClean.f (k + 1) a0):=by
 intro a0 k
 obtain ⟨ih0,ih1⟩:=impl_PathClean.mono_l k
 unfold impl_PathClean.f
 repeat' first
   | (with_reducible apply ih0)
   | (with_reducible apply ih1)
   | (with_reducible exact LeO.refl _)
   | (with_reducible exact LeO.none _)
   | (with_reducible refine LeO.ite ?_ ?_)
   | (with_reducible refine LeO.bind ?_ (fun _=>?_))
   | exact ih0 _ _ _ _
   | exact ih1 _ _ _ _ _ _ _
   | exact LeO.none _
   | refine LeO.ite ?_ ?_
   | refine LeO.bind ?_ (fun _=>?_)
theorem impl_PathClean.calls (k:Nat) (A0:Option Addr) (c0:Nat) (l0:List ByteArray) (r:List ByteArray) (w:World) (hr0:Kd.C Kd.string w A0 l0.length l0) (hc0:l0.length ≤ c0) (h:impl_PathClean.f k l0 = some r) :
  Calls Tryd.prog 69 #[.slice A0 l0.length c0] w fun e w'=>∃ v0_:Value,e = .returned (v0_) ∧ Kd.R Kd.string 9 w' w.heap.size (fun _=>True) v0_ r ∧ Below w.heap.size w w':=by
 have HR0:=Am hr0
 have HC0:=Am hc0
 clear hr0 hc0
 have HB:=Am (Below.refl w.heap.size w)
 have H:(impl_PathClean.l0 k ([]:List ByteArray) l0 (l0.length:Int) 0) = some r:=h
 clear h
 have H':=Am H
 clear H
 go_enter Tryd.func69,Tryd.ntmps69
 go_wp2
 go_step3
 go_wp2
 go_step3
 go_wp2
 go_loopg [3,8] k (fun kq v3 v8 w'=>∃ (x3_1:List ByteArray) (x8_1:Int),v8 = .int .i64 x8_1 ∧ Aside0 (impl_PathClean.l0 kq x3_1 l0 (l0.length:Int) x8_1 = some r) ∧ Aside0 (kq ≤ k) ∧ Aside0 (Kd.R Kd.string 9 w' w.heap.size (fun _=>True) v3 x3_1) ∧ Aside0 (Below w.heap.size w w'))
 case atStart=>exact ⟨(([]:List ByteArray)),(0),(by first|rfl|(simp;done)|(simp only [i64_w,i32_w] <;> rfl)|(simp [*];done)|(simp [emp_bne,emp_beq];done)),H',⟨Nat.le_refl _⟩,⟨by first|exact Kd.R_nil _ _ _ _ _|exact Kd.N_nil _ _ _ _ _|exact Kd.V_nil _ _ _ _ _|exact Kd.Q_nil _ _ _ _ _|exact Kd.S_nil _ _ _ _ _⟩,⟨by repeat (first|(with_reducible first|exact HB.out|apply bA|apply bN|apply bD)|exact HB.out)⟩⟩
 case round =>
  clear H'
  obtain ⟨x3_1,x8_1,rfl,HA,HK1,HO_3,HB⟩:=hrel
  cases gk with
  | zero=>exact absurd HA.out (by simp [impl_PathClean.l0])
  | succ k1 =>
   have H:=HA.out
   clear HA
   simp only [impl_PathClean.l0] at H
   by_cases c2:x8_1 < (l0.length:Int)
   ·rw [if_pos c2] at H
    have c2b0:decide (x8_1 < (l0.length:Int)) = true:=decide_eq_true c2
    clear c2
    by_cases c3:0 ≤ x8_1
    ·rw [if_pos c3] at H
     have c3b0:decide (0 ≤ x8_1) = true:=decide_eq_true c3
     clear c3
     by_cases c4:x8_1 < (l0.length:Int)
     ·rw [if_pos c4] at H
      have c4b0:decide (x8_1 < (l0.length:Int)) = true:=decide_eq_true c4
      clear c4
      have HC5:=Am H
      clear H
      have p378:0 ≤ (x8_1:Int):=oD (by assumption)
      have q378:x8_1 < (l0.length:Int):=oD (by assumption)
      obtain ⟨ad378,e378,hx378_0⟩:=Kd.at_string HR0.out x8_1 p378 q378
      cases e378
      replace hx378_0:=(HB.out.cell (World.block_lt_of_cell? w _ hx378_0)).trans hx378_0
      replace p378:=eq_true p378
      replace q378:=eq_true q378
      go_upto_if 13 with (fail)
      go_cut [13] (fun v13 wc=>∃ (kq:Nat) (x13_4:Bool),v13 = .bool x13_4 ∧ Aside0 (impl_PathClean.j1 kq x3_1 (rdOf ByteArray.empty l0 x8_1) l0 (l0.length:Int) x8_1 (rdOf ByteArray.empty l0 x8_1) x13_4 = some r) ∧ Aside0 (kq ≤ k1) ∧ Aside0 (Kd.R Kd.string 9 wc w.heap.size (fun _=>True) u3 x3_1) ∧ Aside0 (Below w.heap.size w wc))
      case first =>
       have H:=HC5.out
       clear HC5
       by_cases c6:(rdOf ByteArray.empty l0 x8_1).toList = ([]:List UInt8)
       ·rw [if_pos c6] at H
        (try (have c6b0:(rdOf ByteArray.empty l0 x8_1).toList.isEmpty = true:=by simpa using c6))
        have c6b1:((rdOf ByteArray.empty l0 x8_1).toList == ([]:List UInt8)) = true:=beq_iff_eq.mpr c6
        have c6b2:((rdOf ByteArray.empty l0 x8_1).toList != ([]:List UInt8)) = false:=bne_eq_false_iff_eq.mpr c6
        clear c6
        (first|rw [c6b0]|(simp only [i64_w,i32_w];rw [c6b0])|skip)
        have H':=Am H
        clear H
        go_wp2
        go_meet
        case rel=>exact ⟨_,(((rdOf ByteArray.empty l0 x8_1).toList == ([]:List UInt8))),(by first|rfl|(simp;done)|(simp only [i64_w,i32_w] <;> rfl)|(simp [*];done)|(simp [emp_bne,emp_beq];done)),H',⟨by have:=HK1.out;first|omega|exact Nat.le_refl _⟩,⟨by (with_reducible repeat (first|apply rA|apply rN|apply rD));exact HO_3.out⟩,⟨by repeat (first|(with_reducible first|exact HB.out|apply bA|apply bN|apply bD)|exact HB.out)⟩⟩
       ·rw [if_neg c6] at H
        (try (have c6b0:(rdOf ByteArray.empty l0 x8_1).toList.isEmpty = false:=by simpa using c6))
        have c6b1:((rdOf ByteArray.empty l0 x8_1).toList == ([]:List UInt8)) = false:=beq_eq_false_iff_ne.mpr c6
        have c6b2:((rdOf ByteArray.empty l0 x8_1).toList != ([]:List UInt8)) = true:=bne_iff_ne.mpr c6
        (first|rw [c6b0]|(simp only [i64_w,i32_w];rw [c6b0])|skip)
        have H':=Am H
        clear H
        go_wp2
        go_meet
        case rel=>exact ⟨_,(((rdOf ByteArray.empty l0 x8_1).toList == ([46]:List UInt8))),(by first|rfl|(simp;done)|(simp only [i64_w,i32_w] <;> rfl)|(simp [*];done)|(simp [emp_bne,emp_beq];done)),H',⟨by have:=HK1.out;first|omega|exact Nat.le_refl _⟩,⟨by (with_reducible repeat (first|apply rA|apply rN|apply rD));exact HO_3.out⟩,⟨by repeat (first|(with_reducible first|exact HB.out|apply bA|apply bN|apply bD)|exact HB.out)⟩⟩
      case rest =>
       clear HC5
       try clear c2
       try clear c2b0
       try clear p2
       try clear c3
       try clear c3b0
       try clear p3
       try clear q3
       try clear hx3
       try clear c4
       try clear c4b0
       try clear c6
       try clear c6b0
       try clear c6b1
       try clear c6b2
       try clear hx378_0
       try clear p378
       try clear q378
       obtain ⟨kq,x13_4,rfl,HA,HJ4,HO_3,HB⟩:=hcut
       cases kq with
       | zero=>exact absurd HA.out (by simp [impl_PathClean.j1])
       | succ kj4 =>
        have H:=HA.out
        clear HA
        simp only [impl_PathClean.j1] at H
        by_cases c7:x13_4 = true
        ·subst c7
         have H1:(impl_PathClean.l0 kj4 x3_1 l0 (l0.length:Int) (wrap64 (x8_1 + 1))) = some r:=by rw [if_pos rfl] at H;exact H
         clear H
         have H:=H1
         clear H1
         have H':=Am H
         clear H
         go_wp2
         go_roundg kj4
         case measure=>have:=HK1.out;have:=HJ4.out;omega
         case rel=>exact ⟨(x3_1),(wrap64 (x8_1 + 1)),(by first|rfl|(simp;done)|(simp only [i64_w,i32_w] <;> rfl)|(simp [*];done)|(simp [emp_bne,emp_beq];done)),H',⟨by have:=HK1.out;have:=HJ4.out;omega⟩,⟨by (with_reducible repeat (first|apply rA|apply rN|apply rD));exact HO_3.out⟩,⟨by repeat (first|(with_reducible first|exact HB.out|apply bA|apply bN|apply bD)|exact HB.out)⟩⟩
        ·replace c7:=Bool.eq_false_iff.mpr c7
         subst c7
         have H1:(if (rdOf ByteArray.empty l0 x8_1).toList = ([46,46]:List UInt8) then (if (x3_1.length:Int) > 0 then (if 0 ≤ (wrap64 ((x3_1.length:Int) - 1)) then (if (wrap64 ((x3_1.length:Int) - 1)) ≤ (x3_1.length:Int) then (impl_PathClean.l0 kj4 (x3_1.take ((wrap64 ((x3_1.length:Int) - 1)):Int).toNat) l0 (l0.length:Int) (wrap64 (x8_1 + 1))) else (none)) else (none)) else (impl_PathClean.l0 kj4 x3_1 l0 (l0.length:Int) (wrap64 (x8_1 + 1)))) else (if x3_1.length < 8796093022208 then (impl_PathClean.l0 kj4 (x3_1 ++ [(rdOf ByteArray.empty l0 x8_1)]) l0 (l0.length:Int) (wrap64 (x8_1 + 1))) else (none))) = some r:=by rw [if_neg (show ¬ (false = true) by decide)] at H;exact H
         clear H
         have H:=H1
         clear H1
         by_cases c8:(rdOf ByteArray.empty l0 x8_1).toList = ([46,46]:List UInt8)
         ·rw [if_pos c8] at H
          have c8b0:((rdOf ByteArray.empty l0 x8_1).toList == ([46,46]:List UInt8)) = true:=beq_iff_eq.mpr c8
          have c8b1:((rdOf ByteArray.empty l0 x8_1).toList != ([46,46]:List UInt8)) = false:=bne_eq_false_iff_eq.mpr c8
          clear c8
          by_cases c9:(x3_1.length:Int) > 0
          ·rw [if_pos c9] at H
           have c9b0:decide (0 < (x3_1.length:Int)) = true:=decide_eq_true c9
           have c9b1:decide (0 < x3_1.length) = true:=decide_eq_true (by omega)
           clear c9
           obtain ⟨ji10,hji10⟩:∃ j_:Int,(wrap64 ((x3_1.length:Int) - 1)) = j_:=⟨_,rfl⟩
           replace H:(if 0 ≤ (ji10) then (if (ji10) ≤ (x3_1.length:Int) then (impl_PathClean.l0 kj4 (x3_1.take ((ji10):Int).toNat) l0 (l0.length:Int) (wrap64 (x8_1 + 1))) else (none)) else (none)) = some r:=by first|(rw [hji10] at H;exact H)|(simp only [hji10] at H ⊢;exact H)
           have hji10w:(IntKind.i64.wrap ((x3_1.length:Int) - 1)) = ji10:=(i64_w _).trans hji10
           by_cases c11:0 ≤ (ji10)
           ·rw [if_pos c11] at H
            have c11b0:=eq_true c11
            have c11b1:=decide_eq_true c11
            clear c11
            by_cases c12:(ji10) ≤ (x3_1.length:Int)
            ·rw [if_pos c12] at H
             have c12b0:=eq_true c12
             have c12b1:=decide_eq_true c12
             clear c12
             obtain ⟨y379,hy379⟩:∃ y_:List ByteArray,y_ = (x3_1.take ((ji10):Int).toNat):=⟨_,rfl⟩
             replace H:(impl_PathClean.l0 kj4 y379 l0 (l0.length:Int) (wrap64 (x8_1 + 1))) = some r:=by first|(rw [hy379];with_reducible exact H)|(have H2_:=(Option.bind_some _ _).symm.trans H;rw [hy379];with_reducible exact H2_)|(have H2_:=(Option.bind_some _ _).symm.trans H;with_reducible exact H2_)|with_reducible exact H|(rw [hy379];exact H)|exact H
             have Ny379:=Am hy379
             clear hy379
             have H':=Am H
             clear H
             obtain ⟨Ao13,co13,eo13⟩:=Kd.R_slice HO_3.out
             subst eo13
             have q14:((ji10):Int) ≤ ((x3_1.length:Int):Int):=oD (by assumption)
             obtain ⟨i014,hi014,_,hsz14,_⟩:=info_parts info9
             have hcut14:=cut_to (P:=Tryd.prog) 23 9 .i64 Tryd.underlying23 hi014 Ao13 x3_1.length co13 (ji10) (oD (by assumption)) q14 (Kd.R_reads' HO_3.out).2.1
             have hr14:=Kd.R_take (m:=((ji10):Int).toNat) HO_3.out (by omega)
             have hy14:y379.length = ((ji10):Int).toNat:=(by rw [Ny379.out,List.length_take];omega)
             rw [← Ny379.out] at hr14
             rw [← hy14] at hr14 hcut14
             clear hy14 hi014 hsz14 HO_3
             have HO381:=Am hr14
             clear hr14
             replace q14:=eq_true q14
             go_wp2
             go_roundg kj4
             case measure=>have:=HK1.out;have:=HJ4.out;omega
             case rel=>exact ⟨(y379),(wrap64 (x8_1 + 1)),(by first|rfl|(simp;done)|(simp only [i64_w,i32_w] <;> rfl)|(simp [*];done)|(simp [emp_bne,emp_beq];done)),H',⟨by have:=HK1.out;have:=HJ4.out;omega⟩,⟨by (with_reducible repeat (first|apply rA|apply rN|apply rD));exact HO381.out⟩,⟨by repeat (first|(with_reducible first|exact HB.out|apply bA|apply bN|apply bD)|exact HB.out)⟩⟩
            ·rw [if_neg c12] at H
             exact absurd H (by simp)
           ·rw [if_neg c11] at H
            exact absurd H (by simp)
          ·rw [if_neg c9] at H
           have c9b0:decide (0 < (x3_1.length:Int)) = false:=decide_eq_false c9
           have c9b1:decide (0 < x3_1.length) = false:=decide_eq_false (by omega)
           clear c9
           have H':=Am H
           clear H
           obtain ⟨Ao15,co15,eo15⟩:=Kd.R_slice HO_3.out
           subst eo15
           go_wp2
           go_roundg kj4
           case measure=>have:=HK1.out;have:=HJ4.out;omega
           case rel=>exact ⟨(x3_1),(wrap64 (x8_1 + 1)),(by first|rfl|(simp;done)|(simp only [i64_w,i32_w] <;> rfl)|(simp [*];done)|(simp [emp_bne,emp_beq];done)),H',⟨by have:=HK1.out;have:=HJ4.out;omega⟩,⟨by (with_reducible repeat (first|apply rA|apply rN|apply rD));exact HO_3.out⟩,⟨by repeat (first|(with_reducible first|exact HB.out|apply bA|apply bN|apply bD)|exact HB.out)⟩⟩
         ·rw [if_neg c8] at H
          have c8b0:((rdOf ByteArray.empty l0 x8_1).toList == ([46,46]:List UInt8)) = false:=beq_eq_false_iff_ne.mpr c8
          have c8b1:((rdOf ByteArray.empty l0 x8_1).toList != ([46,46]:List UInt8)) = true:=bne_iff_ne.mpr c8
          by_cases c16:x3_1.length < 8796093022208
          ·rw [if_pos c16] at H
           have LMc16:=Am c16
           clear c16
           obtain ⟨y382,hy382⟩:∃ y_:List ByteArray,y_ = (x3_1 ++ [(rdOf ByteArray.empty l0 x8_1)]):=⟨_,rfl⟩
           replace H:(impl_PathClean.l0 kj4 y382 l0 (l0.length:Int) (wrap64 (x8_1 + 1))) = some r:=by first|(rw [hy382];with_reducible exact H)|(have H2_:=(Option.bind_some _ _).symm.trans H;rw [hy382];with_reducible exact H2_)|(have H2_:=(Option.bind_some _ _).symm.trans H;with_reducible exact H2_)|with_reducible exact H|(rw [hy382];exact H)|exact H
           have Ny382:=Am hy382
           clear hy382
           have H':=Am H
           clear H
           go_wp2_with (first|((with_reducible refine gate_builtin (b:=.append) (xs:=#[.tmp 26, .tmp 28]) rfl ?_);at_builtin;refine Kd.R_append Kd.string (w0:=w) w.heap.size rfl (.tmp 26) (.tmp 28) 23 9 (.string ⟨#[]⟩) 16 rfl Tryd.underlying23 info9 rfl (by decide) (by omega) u3 x3_1 (rdOf ByteArray.empty l0 x8_1) [.string (rdOf ByteArray.empty l0 x8_1)] (fun _=>True) (fun _=>False) rfl rfl ?aP (fun _ hk=>hk.elim) ?aF ?aO ?aB ?aS ?aL ?_;(case aP=>exact rfl);(case aB=>exact (by repeat (first|(with_reducible first|exact HB.out|apply bA|apply bN|apply bD)|exact HB.out)));(case aF=>exact (fun _ _=>trivial));(case aO=>exact (bR HO_3.out));(case aS=>exact (bU (by repeat (first|(with_reducible first|exact HB.out|apply bA|apply bN|apply bD)|exact HB.out))));(case aL=>have:=LMc16.out;omega);intro v383 w17 ho hb hg hat;rw [← Ny382.out] at ho;have n0_:=Am (hb);have n1_:=Am (ho);clear HB HO_3;have HB:=n0_;have HO384:=n1_;clear n0_ n1_ ho hb hg hat))
           go_roundg kj4
           case measure=>have:=HK1.out;have:=HJ4.out;omega
           case rel=>exact ⟨(y382),(wrap64 (x8_1 + 1)),(by first|rfl|(simp;done)|(simp only [i64_w,i32_w] <;> rfl)|(simp [*];done)|(simp [emp_bne,emp_beq];done)),H',⟨by have:=HK1.out;have:=HJ4.out;omega⟩,⟨by (with_reducible repeat (first|apply rA|apply rN|apply rD));exact HO384.out⟩,⟨by repeat (first|(with_reducible first|exact HB.out|apply bA|apply bN|apply bD)|exact HB.out)⟩⟩
          ·rw [if_neg c16] at H
           exact absurd H (by simp)
     ·rw [if_neg c4] at H
      exact absurd H (by simp)
    ·rw [if_neg c3] at H
     exact absurd H (by simp)
   ·rw [if_neg c2] at H
    have c2b0:decide (x8_1 < (l0.length:Int)) = false:=decide_eq_false c2
    clear c2
    obtain rfl:=Option.some.inj H
    go_wp2
    (try rw [Exit.noGoto_ret])
    go_ret
    exact ⟨_,by first|rfl|(simp <;> rfl)|(simp [*] <;> rfl),by (with_reducible repeat (first|apply rA|apply rN|apply rD));exact HO_3.out,by repeat (first|(with_reducible first|exact HB.out|apply bA|apply bN|apply bD)|exact HB.out)⟩

/-! ### impl_readWay: function 40 -/
def impl_readWay.l0:Nat → ByteArray → ByteArray → Bool → List ByteArray → List ByteArray → Int → Int → Option (ByteArray × List ByteArray × Bool × ByteArray × Bool)
 | 0,_,_,_,_,_,_,_=>none
 | k + 1,x0,x9,x10,x12,x35,x36,x37=>if x37 < x36 then (if 0 ≤ x37 then (if x37 < (x35.length:Int) then ((impl_EscNorm.f k (rdOf ByteArray.empty x35 x37)).bind fun bt398=>(if bt398.2 = true then (if x12.length < 8796093022208 then (impl_readWay.l0 k x0 x9 x10 (x12 ++ [bt398.1]) x35 x36 (wrap64 (x37 + 1))) else (none)) else (some ((⟨#[]⟩:ByteArray),([]:List ByteArray),false,(⟨#[]⟩:ByteArray),false)))) else (none)) else (none)) else ((impl_PathClean.f k x12).bind fun t403=>((impl_AddrOk.f k x0 t403 x10 x9).bind fun t407=>(if t407 = true then (some (x0,t403,x10,x9,true)) else (some ((⟨#[]⟩:ByteArray),([]:List ByteArray),false,(⟨#[]⟩:ByteArray),false)))))
def impl_readWay.f (k:Nat) (a0:ByteArray) (l1:List ByteArray) (a2:ByteArray):Option (ByteArray × List ByteArray × Bool × ByteArray × Bool):=(strings_Cut.f a2 (⟨#[63]⟩:ByteArray)).bind fun bt386=>((impl_EscNorm.f k bt386.2.1).bind fun bt389=>(if bt389.2 = true then ((slices_Clone_string_string.f l1).bind fun t391=>((strings_Split.f k bt386.1 (⟨#[47]⟩:ByteArray)).bind fun t394=>(impl_readWay.l0 k a0 bt389.1 bt386.2.2 t391 t394 (t394.length:Int) 0))) else (some ((⟨#[]⟩:ByteArray),([]:List ByteArray),false,(⟨#[]⟩:ByteArray),false))))
theorem impl_readWay.mono_l:∀ k,(∀ y0 y1 y2 y3 y4 y5 y6,LeO (impl_readWay.l0 k y0 y1 y2 y3 y4 y5 y6) (impl_readWay.l0 (k + 1) y0 y1 y2 y3 y4 y5 y6))
 | 0=>fun _ _ _ _ _ _ _ r h=>by simp [impl_readWay.l0] at h
 | k + 1=>by
  have ih0:=impl_readWay.mono_l k
  ·intro y0 y1 y2 y3 y4 y5 y6
   unfold impl_readWay.l0
   repeat' first
   | (with_reducible apply ih0)
   | (with_reducible apply impl_AddrOk.mono)
   | (with_reducible apply impl_EscNorm.mono)
   | (with_reducible apply impl_PathClean.mono)
   | (with_reducible apply strings_Split.mono)
   | (with_reducible exact LeO.refl _)
   | (with_reducible exact LeO.none _)
   | (with_reducible refine LeO.ite ?_ ?_)
   | (with_reducible refine LeO.bind ?_ (fun _=>?_))
   | exact ih0 _ _ _ _ _ _ _
   | exact impl_AddrOk.mono _ _ _ _ _
   | exact impl_EscNorm.mono _ _
   | exact impl_PathClean.mono _ _
   | exact strings_Split.mono _ _ _
   | exact LeO.none _
   | refine LeO.ite ?_ ?_
   | refine LeO.bind ?_ (fun _=>?_)
theorem impl_readWay.mono:∀ a0 a1 a2 k,LeO (impl_readWay.f k a0 a1 a2) (impl_readWay.f (k + 1) a0 a1 a2):=by
 intro a0 a1 a2 k
 have ih0:=impl_readWay.mono_l k
 unfold impl_readWay.f
 repeat' first
   | (with_reducible apply ih0)
   | (with_reducible apply impl_AddrOk.mono)
   | (with_reducible apply impl_EscNorm.mono)
   | (with_reducible apply impl_PathClean.mono)
   | (with_reducible apply strings_Split.mono)
   | (with_reducible exact LeO.refl _)
   | (with_reducible exact LeO.none _)
   | (with_reducible refine LeO.ite ?_ ?_)
   | (with_reducible refine LeO.bind ?_ (fun _=>?_))
   | exact ih0 _ _ _ _ _ _ _
   | exact impl_AddrOk.mono _ _ _ _ _
   | exact impl_EscNorm.mono _ _
   | exact impl_PathClean.mono _ _
   | exact strings_Split.mono _ _ _
   | exact LeO.none _
   | refine LeO.ite ?_ ?_
   | refine LeO.bind ?_ (fun _=>?_)
theorem impl_readWay.calls (k:Nat) (a0:ByteArray) (A1:Option Addr) (c1:Nat) (l1:List ByteArray) (a2:ByteArray) (r1:ByteArray) (r2:List ByteArray) (r3:Bool) (r4:ByteArray) (r5:Bool) (w:World) (hr1:Kd.C Kd.string w A1 l1.length l1) (hc1:l1.length ≤ c1) (h:impl_readWay.f k a0 l1 a2 = some (r1,r2,r3,r4,r5)) :
  Calls Tryd.prog 40 #[.string a0, .slice A1 l1.length c1, .string a2] w fun e w'=>∃ v1_:Value,e = .returned (.tuple #[.agg #[.string r1,v1_, .bool r3, .string r4], .bool r5]) ∧ Kd.R Kd.string 9 w' w.heap.size (fun _=>True) v1_ r2 ∧ Below w.heap.size w w':=by
 have hu25:=Tryd.underlying25
 have HR1:=Am hr1
 have HC1:=Am hc1
 clear hr1 hc1
 have HB:=Am (Below.refl w.heap.size w)
 have H:((strings_Cut.f a2 (⟨#[63]⟩:ByteArray)).bind fun bt386=>((impl_EscNorm.f k bt386.2.1).bind fun bt389=>(if bt389.2 = true then ((slices_Clone_string_string.f l1).bind fun t391=>((strings_Split.f k bt386.1 (⟨#[47]⟩:ByteArray)).bind fun t394=>(impl_readWay.l0 k a0 bt389.1 bt386.2.2 t391 t394 (t394.length:Int) 0))) else (some ((⟨#[]⟩:ByteArray),([]:List ByteArray),false,(⟨#[]⟩:ByteArray),false))))) = some (r1,r2,r3,r4,r5):=h
 clear h
 replace H:=bI H
 obtain ⟨⟨t386,t387,t388⟩,A40,H⟩:=H
 replace H:((impl_EscNorm.f k t387).bind fun bt389=>(if bt389.2 = true then ((slices_Clone_string_string.f l1).bind fun t391=>((strings_Split.f k t386 (⟨#[47]⟩:ByteArray)).bind fun t394=>(impl_readWay.l0 k a0 bt389.1 t388 t391 t394 (t394.length:Int) 0))) else (some ((⟨#[]⟩:ByteArray),([]:List ByteArray),false,(⟨#[]⟩:ByteArray),false)))) = some (r1,r2,r3,r4,r5):=H
 have A4:=Am A40
 clear A40
 replace H:=bI H
 obtain ⟨⟨t389,t390⟩,A50,H⟩:=H
 replace H:(if t390 = true then ((slices_Clone_string_string.f l1).bind fun t391=>((strings_Split.f k t386 (⟨#[47]⟩:ByteArray)).bind fun t394=>(impl_readWay.l0 k a0 t389 t388 t391 t394 (t394.length:Int) 0))) else (some ((⟨#[]⟩:ByteArray),([]:List ByteArray),false,(⟨#[]⟩:ByteArray),false))) = some (r1,r2,r3,r4,r5):=H
 have A5:=Am A50
 clear A50
 by_cases c6:t390 = true
 ·subst c6
  have H1:((slices_Clone_string_string.f l1).bind fun t391=>((strings_Split.f k t386 (⟨#[47]⟩:ByteArray)).bind fun t394=>(impl_readWay.l0 k a0 t389 t388 t391 t394 (t394.length:Int) 0))) = some (r1,r2,r3,r4,r5):=by rw [if_pos rfl] at H;exact H
  clear H
  have H:=H1
  clear H1
  replace H:=bI H
  obtain ⟨t391,A70,H⟩:=H
  replace H:((strings_Split.f k t386 (⟨#[47]⟩:ByteArray)).bind fun t394=>(impl_readWay.l0 k a0 t389 t388 t391 t394 (t394.length:Int) 0)) = some (r1,r2,r3,r4,r5):=H
  have A7:=Am A70
  clear A70
  replace H:=bI H
  obtain ⟨t394,A80,H⟩:=H
  replace H:(impl_readWay.l0 k a0 t389 t388 t391 t394 (t394.length:Int) 0) = some (r1,r2,r3,r4,r5):=H
  have A8:=Am A80
  clear A80
  have H':=Am H
  clear H
  go_enter Tryd.func40,Tryd.ntmps40
  go_wp2_with (first|((with_reducible refine gate_dst (N:=6) rfl ?_);refine box_event ?hg (N:=6) ?hd (cs:=#[.string (⟨#[]⟩:ByteArray), .slice none 0 0, .bool false, .string (⟨#[]⟩:ByteArray)]) (t:=25) ?hr ?_;(case hd=>rfl);(case hg=>rfl);(case hr=>(go_simp <;> rfl));intro gb385 hg w9 hbox hb;have n0_:=Am (bT (by repeat (first|(with_reducible first|exact HB.out|apply bA|apply bN|apply bD)|exact HB.out)) hb);have n1_:=Am (hbox);have n2_:=Am ((by rw [hg];exact (bU (by repeat (first|(with_reducible first|exact HB.out|apply bA|apply bN|apply bD)|exact HB.out))):w.heap.size ≤ gb385));have n3_:=n2_;clear HB;have HB:=n0_;have BK385:=n1_;have GW385:=n2_;have GE385:=n3_;clear n0_ n1_ n2_ n3_ hb hbox hg)|((with_reducible refine gate_callee (f:=36) rfl ?_);refine goesL_ (some 20) rfl rfl Tryd.func36 (by kernel_rfl) rfl #[.string a2, .string (⟨#[63]⟩:ByteArray)] rfl (aE2 rfl rfl) ?_;(with_reducible refine (strings_Cut.calls a2 (⟨#[63]⟩:ByteArray) t386 t387 t388 _ A4.out).mono ?_);rintro e w' ⟨rfl,⟨nd,rfl⟩⟩;refine ⟨_,rfl,?_⟩)|((with_reducible refine gate_callee (f:=67) rfl ?_);refine goesL_ (some 26) rfl rfl Tryd.func67 (by kernel_rfl) rfl #[.string t387] rfl (aE1 rfl) ?_;(with_reducible refine (impl_EscNorm.calls k t387 t389 true _ A5.out).mono ?_);rintro e w10 ⟨rfl,hb⟩;refine ⟨_,rfl,?_⟩;have n0_:=Am (blk_below (bB BK385.out) hb);have n1_:=Am (bT (by repeat (first|(with_reducible first|exact HB.out|apply bA|apply bN|apply bD|refine bS ?_ GE385.out)|exact HB.out)) hb);clear BK385 HB;have BK385:=n0_;have HB:=n1_;clear n0_ n1_;(try clear hb))|((with_reducible refine gate_callee (f:=39) rfl ?_);refine goesL_ (some 33) rfl rfl Tryd.func39 (by kernel_rfl) rfl #[.slice A1 l1.length c1] rfl (aE1 rfl) ?_;(with_reducible refine (slices_Clone_string_string.calls _ _ l1 t391 _ ?side1 ?side2 A7.out).mono ?_);(case side1=>repeat (first|exact (Kd.C_below HR1.out HB.out)|(with_reducible refine bC ?_)));(case side2=>exact HC1.out);rintro e w11 ⟨v392,rfl,ho0,hb⟩;refine ⟨_,rfl,?_⟩;have n0_:=Am (Kd.R_lower ho0 (bU (by repeat (first|(with_reducible first|exact HB.out|apply bA|apply bN|apply bD|refine bS ?_ GE385.out)|exact HB.out))));have n1_:=Am (blk_below (bB BK385.out) hb);have n2_:=Am (bT (by repeat (first|(with_reducible first|exact HB.out|apply bA|apply bN|apply bD|refine bS ?_ GE385.out)|exact HB.out)) hb);clear BK385 HB;have HO393:=n0_;have BK385:=n1_;have HB:=n2_;clear n0_ n1_ n2_;(try clear hb);(try clear ho0))|((with_reducible refine gate_callee (f:=68) rfl ?_);refine goesL_ (some 35) rfl rfl Tryd.func68 (by kernel_rfl) rfl #[.string t386, .string (⟨#[47]⟩:ByteArray)] rfl (aE2 rfl rfl) ?_;(with_reducible refine (strings_Split.calls k t386 (⟨#[47]⟩:ByteArray) t394 _ A8.out).mono ?_);rintro e w12 ⟨v395,rfl,ho0,hb⟩;refine ⟨_,rfl,?_⟩;have n0_:=Am (Kd.R_elder' (bR HO393.out) (Kd.R_base ho0) hb);have n1_:=Am (Kd.R_lower (Kd.R_new' ho0 (Kd.R_lt (bR HO393.out))) (bU (by repeat (first|(with_reducible first|exact HB.out|apply bA|apply bN|apply bD|refine bS ?_ GE385.out)|exact HB.out))));have n2_:=Am (blk_below (bB BK385.out) hb);have n3_:=Am (bT (by repeat (first|(with_reducible first|exact HB.out|apply bA|apply bN|apply bD|refine bS ?_ GE385.out)|exact HB.out)) hb);clear HO393 BK385 HB;have HO393:=n0_;have HO396:=n1_;have BK385:=n2_;have HB:=n3_;clear n0_ n1_ n2_ n3_;(try clear hb);(try clear ho0);obtain ⟨Ao13,co13,eo13⟩:=Kd.R_slice HO396.out;subst eo13))
  go_loopg [12,37] k (fun kq v12 v37 w'=>∃ (x12_1:List ByteArray) (x37_1:Int) (x386000_1:ByteArray) (x386002_1:Bool) (x386003_1:ByteArray),v37 = .int .i64 x37_1 ∧ Aside0 (impl_readWay.l0 kq a0 t389 t388 x12_1 t394 (t394.length:Int) x37_1 = some (r1,r2,r3,r4,r5)) ∧ Aside0 (kq ≤ k) ∧ Aside0 (Kd.R Kd.string 9 w' w.heap.size (fun k_=>some k_ ≠ ((.slice Ao13 t394.length co13):Value).ownBlock) v12 x12_1) ∧ Aside0 (Kd.R Kd.string 9 w' w.heap.size (fun k_=>some k_ ≠ (v12:Value).ownBlock) (.slice Ao13 t394.length co13) t394) ∧ Aside0 (w'.heap[gb385]? = some (.cells #[.string x386000_1,(.slice none 0 0), .bool x386002_1, .string x386003_1] 25 (0,0))) ∧ Aside0 (Below w.heap.size w w'))
  case atStart=>exact ⟨(t391),(0),((⟨#[]⟩:ByteArray)),(false),((⟨#[]⟩:ByteArray)),(by first|rfl|(simp;done)|(simp only [i64_w,i32_w] <;> rfl)|(simp [*];done)|(simp [emp_bne,emp_beq];done)),H',⟨Nat.le_refl _⟩,⟨by (with_reducible repeat (first|apply rA|apply rN|apply rD));exact Kd.R_mono HO393.out (fun _ hk=>hk.2)⟩,⟨by (with_reducible repeat (first|apply rA|apply rN|apply rD));exact Kd.R_mono HO396.out (fun _ hk=>hk.2)⟩,⟨by refine bB ?_;exact BK385.out⟩,⟨by repeat (first|(with_reducible first|exact HB.out|apply bA|apply bN|apply bD|refine bS ?_ GE385.out)|exact HB.out)⟩⟩
  case round =>
   clear H'
   try clear c1
   try clear p2
   try clear c3
   try clear c4
   try clear c6
   obtain ⟨x12_1,x37_1,x386000_1,x386002_1,x386003_1,rfl,HA,HK1,HO_12,HO_35,BK385,HB⟩:=hrel
   cases gk with
   | zero=>exact absurd HA.out (by simp [impl_readWay.l0])
   | succ k1 =>
    have H:=HA.out
    clear HA
    simp only [impl_readWay.l0] at H
    by_cases c14:x37_1 < (t394.length:Int)
    ·rw [if_pos c14] at H
     have c14b0:decide (x37_1 < (t394.length:Int)) = true:=decide_eq_true c14
     clear c14
     by_cases c15:0 ≤ x37_1
     ·rw [if_pos c15] at H
      have c15b0:decide (0 ≤ x37_1) = true:=decide_eq_true c15
      clear c15
      by_cases c16:x37_1 < (t394.length:Int)
      ·rw [if_pos c16] at H
       have c16b0:decide (x37_1 < (t394.length:Int)) = true:=decide_eq_true c16
       clear c16
       replace H:=bI H
       obtain ⟨⟨t398,t399⟩,A170,H⟩:=H
       replace H:(if t399 = true then (if x12_1.length < 8796093022208 then (impl_readWay.l0 k1 a0 t389 t388 (x12_1 ++ [t398]) t394 (t394.length:Int) (wrap64 (x37_1 + 1))) else (none)) else (some ((⟨#[]⟩:ByteArray),([]:List ByteArray),false,(⟨#[]⟩:ByteArray),false))) = some (r1,r2,r3,r4,r5):=H
       have A17:=Am A170
       clear A170
       by_cases c18:t399 = true
       ·subst c18
        have H1:(if x12_1.length < 8796093022208 then (impl_readWay.l0 k1 a0 t389 t388 (x12_1 ++ [t398]) t394 (t394.length:Int) (wrap64 (x37_1 + 1))) else (none)) = some (r1,r2,r3,r4,r5):=by rw [if_pos rfl] at H;exact H
        clear H
        have H:=H1
        clear H1
        by_cases c19:x12_1.length < 8796093022208
        ·rw [if_pos c19] at H
         have LMc19:=Am c19
         clear c19
         obtain ⟨y400,hy400⟩:∃ y_:List ByteArray,y_ = (x12_1 ++ [t398]):=⟨_,rfl⟩
         replace H:(impl_readWay.l0 k1 a0 t389 t388 y400 t394 (t394.length:Int) (wrap64 (x37_1 + 1))) = some (r1,r2,r3,r4,r5):=by first|(rw [hy400];with_reducible exact H)|(have H2_:=(Option.bind_some _ _).symm.trans H;rw [hy400];with_reducible exact H2_)|(have H2_:=(Option.bind_some _ _).symm.trans H;with_reducible exact H2_)|with_reducible exact H|(rw [hy400];exact H)|exact H
         have Ny400:=Am hy400
         clear hy400
         have H':=Am H
         clear H
         have p397:0 ≤ (x37_1:Int):=oD (by assumption)
         have q397:x37_1 < (t394.length:Int):=oD (by assumption)
         obtain ⟨ad397,e397,hx397_0⟩:=Kd.at_string (Kd.R_reads' HO_35.out).2.2 x37_1 p397 q397
         cases e397
         replace p397:=eq_true p397
         replace q397:=eq_true q397
         go_wp2_with (first|((with_reducible refine gate_callee (f:=67) rfl ?_);refine goesL_ (some 43) rfl rfl Tryd.func67 (by kernel_rfl) rfl #[.string (rdOf ByteArray.empty t394 x37_1)] rfl (aE1 rfl) ?_;(with_reducible refine (impl_EscNorm.calls k1 (rdOf ByteArray.empty t394 x37_1) t398 true _ A17.out).mono ?_);rintro e w20 ⟨rfl,hb⟩;refine ⟨_,rfl,?_⟩;have n0_:=Am (Kd.R_below (bR HO_12.out) hb);have n1_:=Am (Kd.R_below (bR HO_35.out) hb);have n2_:=Am (blk_below (bB BK385.out) hb);have n3_:=Am (bT (by repeat (first|(with_reducible first|exact HB.out|apply bA|apply bN|apply bD|refine bS ?_ GE385.out)|exact HB.out)) hb);clear HO_12 HO_35 BK385 HB;have HO_12:=n0_;have HO_35:=n1_;have BK385:=n2_;have HB:=n3_;clear n0_ n1_ n2_ n3_;(try clear hb))|((with_reducible refine gate_builtin (b:=.append) (xs:=#[.tmp 49, .tmp 51]) rfl ?_);at_builtin;refine Kd.R_append Kd.string (w0:=w) w.heap.size rfl (.tmp 49) (.tmp 51) 23 9 (.string ⟨#[]⟩) 16 rfl Tryd.underlying23 info9 rfl (by decide) (by omega) u12 x12_1 t398 [.string t398] (fun k_=>some k_ ≠ (.slice (some ad397) t394.length co13:Value).ownBlock) (fun _=>False) rfl rfl ?aP (fun _ hk=>hk.elim) ?aF ?aO ?aB ?aS ?aL ?_;(case aP=>exact rfl);(case aB=>exact (by repeat (first|(with_reducible first|exact HB.out|apply bA|apply bN|apply bD|refine bS ?_ GE385.out)|exact HB.out)));(case aF=>exact (fun k_ hk=>Kd.fresh' (Kd.R_lt (bR HO_35.out)) k_ hk));(case aO=>exact (bR HO_12.out));(case aS=>exact (bU (by repeat (first|(with_reducible first|exact HB.out|apply bA|apply bN|apply bD|refine bS ?_ GE385.out)|exact HB.out))));(case aL=>have:=LMc19.out;omega);intro v401 w21 ho hb hg hat;rw [← Ny400.out] at ho;have n0_:=Am (Kd.R_after (ok:=(fun _=>True)) (by (with_reducible repeat (first|apply rA|apply rN|apply rD));exact Kd.R_mono HO_35.out (fun _ hk=>⟨trivial,hk⟩)) hg hat);have n1_:=Am (blk_grown (bB BK385.out) hg (Kd.R_ne HO_12.out BK385.out (by decide)));have n2_:=Am (hb);have n3_:=Am (ho);clear HO_35 BK385 HB HO_12;have HO_35:=n0_;have BK385:=n1_;have HB:=n2_;have HO402:=n3_;clear n0_ n1_ n2_ n3_ ho hb hg hat))
         go_roundg k1
         case measure=>have:=HK1.out;omega
         case rel=>exact ⟨(y400),(wrap64 (x37_1 + 1)),(x386000_1),(x386002_1),(x386003_1),(by first|rfl|(simp;done)|(simp only [i64_w,i32_w] <;> rfl)|(simp [*];done)|(simp [emp_bne,emp_beq];done)),H',⟨by have:=HK1.out;omega⟩,⟨by (with_reducible repeat (first|apply rA|apply rN|apply rD));exact HO402.out⟩,⟨by (with_reducible repeat (first|apply rA|apply rN|apply rD));exact Kd.R_mono HO_35.out (fun _ hk=>hk.2)⟩,⟨by refine bB ?_;exact BK385.out⟩,⟨by repeat (first|(with_reducible first|exact HB.out|apply bA|apply bN|apply bD|refine bS ?_ GE385.out)|exact HB.out)⟩⟩
        ·rw [if_neg c19] at H
         exact absurd H (by simp)
       ·replace c18:=Bool.eq_false_iff.mpr c18
        subst c18
        have H1:(some ((⟨#[]⟩:ByteArray),([]:List ByteArray),false,(⟨#[]⟩:ByteArray),false)) = some (r1,r2,r3,r4,r5):=by rw [if_neg (show ¬ (false = true) by decide)] at H;exact H
        clear H
        have H:=H1
        clear H1
        simp only [Option.some.injEq,Prod.mk.injEq] at H
        obtain ⟨rfl,rfl,rfl,rfl,rfl⟩:=H
        have p397:0 ≤ (x37_1:Int):=oD (by assumption)
        have q397:x37_1 < (t394.length:Int):=oD (by assumption)
        obtain ⟨ad397,e397,hx397_0⟩:=Kd.at_string (Kd.R_reads' HO_35.out).2.2 x37_1 p397 q397
        cases e397
        replace p397:=eq_true p397
        replace q397:=eq_true q397
        go_wp2_with (first|((with_reducible refine gate_callee (f:=67) rfl ?_);refine goesL_ (some 43) rfl rfl Tryd.func67 (by kernel_rfl) rfl #[.string (rdOf ByteArray.empty t394 x37_1)] rfl (aE1 rfl) ?_;(with_reducible refine (impl_EscNorm.calls k1 (rdOf ByteArray.empty t394 x37_1) t398 false _ A17.out).mono ?_);rintro e w22 ⟨rfl,hb⟩;refine ⟨_,rfl,?_⟩;have n0_:=Am (Kd.R_below (bR HO_12.out) hb);have n1_:=Am (Kd.R_below (bR HO_35.out) hb);have n2_:=Am (blk_below (bB BK385.out) hb);have n3_:=Am (bT (by repeat (first|(with_reducible first|exact HB.out|apply bA|apply bN|apply bD|refine bS ?_ GE385.out)|exact HB.out)) hb);clear HO_12 HO_35 BK385 HB;have HO_12:=n0_;have HO_35:=n1_;have BK385:=n2_;have HB:=n3_;clear n0_ n1_ n2_ n3_;(try clear hb);have hcz23_0:w22.cell? ⟨gb385,0,none⟩ = some (.string x386000_1):=bM BK385.out 0 rfl;have hcz23_1:w22.cell? ⟨gb385,1,none⟩ = some (.slice none 0 0):=bM BK385.out 1 rfl;have hcz23_2:w22.cell? ⟨gb385,2,none⟩ = some (.bool x386002_1):=bM BK385.out 2 rfl;have hcz23_3:w22.cell? ⟨gb385,3,none⟩ = some (.string x386003_1):=bM BK385.out 3 rfl;have hfz23_0:=bZ BK385.out 0;have hfz23_1:=bZ BK385.out 1;have hfz23_2:=bZ BK385.out 2;have hfz23_3:=bZ BK385.out 3))
        refine bodyPost_ret (results_ct rfl _ _ gb385 25 #[.string (⟨#[]⟩:ByteArray), .slice none 0 0, .bool false, .string (⟨#[]⟩:ByteArray)] (0,0) _ rfl (by refine bB ?_;apply bP;refine bB ?_;exact BK385.out) Tryd.underlying25 rfl (by kernel_rfl)) rfl ?_
        exact ⟨_,by first|rfl|(simp <;> rfl)|(simp [*] <;> rfl),by first|exact Kd.R_nil _ _ _ _ _|exact Kd.N_nil _ _ _ _ _|exact Kd.V_nil _ _ _ _ _|exact Kd.Q_nil _ _ _ _ _|exact Kd.S_nil _ _ _ _ _,by repeat (first|(with_reducible first|exact HB.out|apply bA|apply bN|apply bD|refine bS ?_ GE385.out)|exact HB.out)⟩
      ·rw [if_neg c16] at H
       exact absurd H (by simp)
     ·rw [if_neg c15] at H
      exact absurd H (by simp)
    ·rw [if_neg c14] at H
     have c14b0:decide (x37_1 < (t394.length:Int)) = false:=decide_eq_false c14
     clear c14
     replace H:=bI H
     obtain ⟨t403,A240,H⟩:=H
     replace H:((impl_AddrOk.f k1 a0 t403 t388 t389).bind fun t407=>(if t407 = true then (some (a0,t403,t388,t389,true)) else (some ((⟨#[]⟩:ByteArray),([]:List ByteArray),false,(⟨#[]⟩:ByteArray),false)))) = some (r1,r2,r3,r4,r5):=H
     have A24:=Am A240
     clear A240
     replace H:=bI H
     obtain ⟨t407,A250,H⟩:=H
     replace H:(if t407 = true then (some (a0,t403,t388,t389,true)) else (some ((⟨#[]⟩:ByteArray),([]:List ByteArray),false,(⟨#[]⟩:ByteArray),false))) = some (r1,r2,r3,r4,r5):=H
     have A25:=Am A250
     clear A250
     by_cases c26:t407 = true
     ·subst c26
      have H1:(some (a0,t403,t388,t389,true)) = some (r1,r2,r3,r4,r5):=by rw [if_pos rfl] at H;exact H
      clear H
      have H:=H1
      clear H1
      simp only [Option.some.injEq,Prod.mk.injEq] at H
      obtain ⟨rfl,rfl,rfl,rfl,rfl⟩:=H
      obtain ⟨Ao27,co27,eo27⟩:=Kd.R_slice HO_12.out
      subst eo27
      go_wp2_with (first|((with_reducible refine gate_callee (f:=69) rfl ?_);refine goesL_ (some 56) rfl rfl Tryd.func69 (by kernel_rfl) rfl #[.slice Ao27 x12_1.length co27] rfl (aE1 rfl) ?_;(with_reducible refine (impl_PathClean.calls k1 _ _ x12_1 t403 _ ?side1 ?side2 A24.out).mono ?_);(case side1=>repeat (first|exact (Kd.R_reads' HO_12.out).2.2|(with_reducible refine bC ?_)));(case side2=>exact (Kd.R_reads' HO_12.out).2.1);rintro e w28 ⟨v404,rfl,ho0,hb⟩;refine ⟨_,rfl,?_⟩;have n0_:=Am (Kd.R_elder' (bR HO_12.out) (Kd.R_base ho0) hb);have n1_:=Am (Kd.R_elder' (bR HO_35.out) (Kd.R_base ho0) hb);have n2_:=Am (Kd.R_lower (Kd.R_new' (Kd.R_new' ho0 (Kd.R_lt (bR HO_12.out))) (Kd.R_lt (bR HO_35.out))) (bU (by repeat (first|(with_reducible first|exact HB.out|apply bA|apply bN|apply bD|refine bS ?_ GE385.out)|exact HB.out))));have n3_:=Am (blk_below (bB BK385.out) hb);have n4_:=Am (bT (by repeat (first|(with_reducible first|exact HB.out|apply bA|apply bN|apply bD|refine bS ?_ GE385.out)|exact HB.out)) hb);clear HO_12 HO_35 BK385 HB;have HO_12:=n0_;have HO_35:=n1_;have HO405:=n2_;have BK385:=n3_;have HB:=n4_;clear n0_ n1_ n2_ n3_ n4_;(try clear hb);(try clear ho0);obtain ⟨Ao29,co29,eo29⟩:=Kd.R_slice HO405.out;subst eo29)|((with_reducible refine gate_dst (N:=17) rfl ?_);refine box_event ?hg (N:=17) ?hd (cs:=#[.string (⟨#[]⟩:ByteArray), .slice none 0 0, .bool false, .string (⟨#[]⟩:ByteArray)]) (t:=25) ?hr ?_;(case hd=>rfl);(case hg=>rfl);(case hr=>(go_simp <;> rfl));intro gb406 hg w30 hbox hb;have n0_:=Am (Kd.R_below (bR HO_12.out) hb);have n1_:=Am (Kd.R_below (bR HO_35.out) hb);have n2_:=Am (Kd.R_below (bR HO405.out) hb);have n3_:=Am (blk_below (bB BK385.out) hb);have n4_:=Am (bT (by repeat (first|(with_reducible first|exact HB.out|apply bA|apply bN|apply bD|refine bS ?_ GE385.out)|exact HB.out)) hb);have n5_:=Am (hbox);have n6_:=Am ((by rw [hg];exact (bU (by repeat (first|(with_reducible first|exact HB.out|apply bA|apply bN|apply bD|refine bS ?_ GE385.out)|exact HB.out))):w.heap.size ≤ gb406));have n7_:=n6_;have n8_:=Am ((by rw [hg];exact Nat.ne_of_lt (blk_lt (bB BK385.out)):gb385 ≠ gb406));have n9_:=Am ((by rw [hg];exact Nat.ne_of_gt (blk_lt (bB BK385.out)):gb406 ≠ gb385));clear HO_12 HO_35 HO405 BK385 HB;have HO_12:=n0_;have HO_35:=n1_;have HO405:=n2_;have BK385:=n3_;have HB:=n4_;have BK406:=n5_;have GW406:=n6_;have GE406:=n7_;have NB385_406:=n8_;have NB406_385:=n9_;clear n0_ n1_ n2_ n3_ n4_ n5_ n6_ n7_ n8_ n9_ hb hbox hg;have hnb31:=NB406_385.out;have hnc31:=NB385_406.out;have hcz32_0:w30.cell? ⟨gb406,0,none⟩ = some (.string (⟨#[]⟩:ByteArray)):=bM BK406.out 0 rfl;have hcz32_1:w30.cell? ⟨gb406,1,none⟩ = some (.slice none 0 0):=bM BK406.out 1 rfl;have hcz32_2:w30.cell? ⟨gb406,2,none⟩ = some (.bool false):=bM BK406.out 2 rfl;have hcz32_3:w30.cell? ⟨gb406,3,none⟩ = some (.string (⟨#[]⟩:ByteArray)):=bM BK406.out 3 rfl;have hfz32_0:=bZ BK406.out 0;have hfz32_1:=bZ BK406.out 1;have hfz32_2:=bZ BK406.out 2;have hfz32_3:=bZ BK406.out 3)|((with_reducible refine gate_callee (f:=28) rfl ?_);refine goesL_ (some 61) rfl rfl Tryd.func28 (by kernel_rfl) rfl #[.agg #[.string a0, .slice Ao29 t403.length co29, .bool t388, .string t389]] rfl (aE1 rfl) ?_;(with_reducible refine (impl_AddrOk.calls k1 a0 _ _ t403 t388 t389 true _ ?side1 ?side2 A25.out).mono ?_);(case side1=>refine (Kd.R_reads' (e:=9) (base:=w.heap.size) (ok:=fun k_=>((True ∧ some k_ ≠ (.slice Ao27 x12_1.length co27:Value).ownBlock) ∧ some k_ ≠ (.slice Ao13 t394.length co13:Value).ownBlock)) (n:=t403.length) (c:=co29) ?_).2.2;exact (by (with_reducible repeat (first|apply rA|apply rN|apply rD));exact (bQ HO405.out BK406.out (by decide) _ _ _ _)));(case side2=>exact (Kd.R_reads' HO405.out).2.1);rintro e w33 ⟨rfl,hb⟩;refine ⟨_,rfl,?_⟩;have n0_:=Am (Kd.R_below (by (with_reducible repeat (first|apply rA|apply rN|apply rD));exact (bQ HO_12.out BK406.out (by decide) _ _ _ _)) hb);have n1_:=Am (Kd.R_below (by (with_reducible repeat (first|apply rA|apply rN|apply rD));exact (bQ HO_35.out BK406.out (by decide) _ _ _ _)) hb);have n2_:=Am (Kd.R_below (by (with_reducible repeat (first|apply rA|apply rN|apply rD));exact (bQ HO405.out BK406.out (by decide) _ _ _ _)) hb);have n3_:=Am (blk_below (g:=gb385) (o:=.cells #[.string x386000_1, .slice none 0 0, .bool x386002_1, .string x386003_1] 25 (0,0)) (by refine bB ?_;refine bF ?_ NB385_406.out;refine bB ?_;exact BK385.out) hb);have n4_:=Am (blk_below (g:=gb406) (o:=.cells #[.string a0, .slice Ao29 t403.length co29, .bool t388, .string t389] 25 (0,0)) (by refine bB ?_;apply bP;refine bB ?_;exact BK406.out) hb);have n5_:=Am (bT (by repeat (first|(with_reducible first|exact HB.out|apply bA|apply bN|apply bD|refine bS ?_ GE385.out|refine bS ?_ GE406.out)|exact HB.out)) hb);clear HO_12 HO_35 HO405 BK385 BK406 HB;have HO_12:=n0_;have HO_35:=n1_;have HO405:=n2_;have BK385:=n3_;have BK406:=n4_;have HB:=n5_;clear n0_ n1_ n2_ n3_ n4_ n5_;(try clear hb);have hcz34_0:w33.cell? ⟨gb406,0,none⟩ = some (.string a0):=bM BK406.out 0 rfl;have hcz34_1:w33.cell? ⟨gb406,1,none⟩ = some (.slice Ao29 t403.length co29):=bM BK406.out 1 rfl;have hcz34_2:w33.cell? ⟨gb406,2,none⟩ = some (.bool t388):=bM BK406.out 2 rfl;have hcz34_3:w33.cell? ⟨gb406,3,none⟩ = some (.string t389):=bM BK406.out 3 rfl;have hfz34_0:=bZ BK406.out 0;have hfz34_1:=bZ BK406.out 1;have hfz34_2:=bZ BK406.out 2;have hfz34_3:=bZ BK406.out 3;have hcz35_0:w33.cell? ⟨gb385,0,none⟩ = some (.string x386000_1):=bM BK385.out 0 rfl;have hcz35_1:w33.cell? ⟨gb385,1,none⟩ = some (.slice none 0 0):=bM BK385.out 1 rfl;have hcz35_2:w33.cell? ⟨gb385,2,none⟩ = some (.bool x386002_1):=bM BK385.out 2 rfl;have hcz35_3:w33.cell? ⟨gb385,3,none⟩ = some (.string x386003_1):=bM BK385.out 3 rfl;have hfz35_0:=bZ BK385.out 0;have hfz35_1:=bZ BK385.out 1;have hfz35_2:=bZ BK385.out 2;have hfz35_3:=bZ BK385.out 3))
      refine bodyPost_ret (results_ct rfl _ _ gb385 25 #[.string a0, .slice Ao29 t403.length co29, .bool t388, .string t389] (0,0) _ rfl (by refine bB ?_;apply bP;refine bB ?_;exact BK385.out) Tryd.underlying25 rfl (by kernel_rfl)) rfl ?_
      exact ⟨_,by first|rfl|(simp <;> rfl)|(simp [*] <;> rfl),by (with_reducible repeat (first|apply rA|apply rN|apply rD));exact Kd.R_mono (Kd.R_far (p:=⟨gb385,3,none⟩) (Kd.R_far (p:=⟨gb385,2,none⟩) (Kd.R_far (p:=⟨gb385,1,none⟩) (Kd.R_far (p:=⟨gb385,0,none⟩) (Kd.R_types HO405.out BK385.out (by decide)) (fun _ hk=>hk.2) (.string a0)) (fun _ hk=>hk.2) (.slice Ao29 t403.length co29)) (fun _ hk=>hk.2) (.bool t388)) (fun _ hk=>hk.2) (.string t389)) (fun _ hk=>trivial),by repeat (first|(with_reducible first|exact HB.out|apply bA|apply bN|apply bD|refine bS ?_ GE385.out|refine bS ?_ GE406.out)|exact HB.out)⟩
     ·replace c26:=Bool.eq_false_iff.mpr c26
      subst c26
      have H1:(some ((⟨#[]⟩:ByteArray),([]:List ByteArray),false,(⟨#[]⟩:ByteArray),false)) = some (r1,r2,r3,r4,r5):=by rw [if_neg (show ¬ (false = true) by decide)] at H;exact H
      clear H
      have H:=H1
      clear H1
      simp only [Option.some.injEq,Prod.mk.injEq] at H
      obtain ⟨rfl,rfl,rfl,rfl,rfl⟩:=H
      obtain ⟨Ao36,co36,eo36⟩:=Kd.R_slice HO_12.out
      subst eo36
      go_wp2_with (first|((with_reducible refine gate_callee (f:=69) rfl ?_);refine goesL_ (some 56) rfl rfl Tryd.func69 (by kernel_rfl) rfl #[.slice Ao36 x12_1.length co36] rfl (aE1 rfl) ?_;(with_reducible refine (impl_PathClean.calls k1 _ _ x12_1 t403 _ ?side1 ?side2 A24.out).mono ?_);(case side1=>repeat (first|exact (Kd.R_reads' HO_12.out).2.2|(with_reducible refine bC ?_)));(case side2=>exact (Kd.R_reads' HO_12.out).2.1);rintro e w37 ⟨v404,rfl,ho0,hb⟩;refine ⟨_,rfl,?_⟩;have n0_:=Am (Kd.R_elder' (bR HO_12.out) (Kd.R_base ho0) hb);have n1_:=Am (Kd.R_elder' (bR HO_35.out) (Kd.R_base ho0) hb);have n2_:=Am (Kd.R_lower (Kd.R_new' (Kd.R_new' ho0 (Kd.R_lt (bR HO_12.out))) (Kd.R_lt (bR HO_35.out))) (bU (by repeat (first|(with_reducible first|exact HB.out|apply bA|apply bN|apply bD|refine bS ?_ GE385.out)|exact HB.out))));have n3_:=Am (blk_below (bB BK385.out) hb);have n4_:=Am (bT (by repeat (first|(with_reducible first|exact HB.out|apply bA|apply bN|apply bD|refine bS ?_ GE385.out)|exact HB.out)) hb);clear HO_12 HO_35 BK385 HB;have HO_12:=n0_;have HO_35:=n1_;have HO405:=n2_;have BK385:=n3_;have HB:=n4_;clear n0_ n1_ n2_ n3_ n4_;(try clear hb);(try clear ho0);obtain ⟨Ao38,co38,eo38⟩:=Kd.R_slice HO405.out;subst eo38)|((with_reducible refine gate_dst (N:=17) rfl ?_);refine box_event ?hg (N:=17) ?hd (cs:=#[.string (⟨#[]⟩:ByteArray), .slice none 0 0, .bool false, .string (⟨#[]⟩:ByteArray)]) (t:=25) ?hr ?_;(case hd=>rfl);(case hg=>rfl);(case hr=>(go_simp <;> rfl));intro gb406 hg w39 hbox hb;have n0_:=Am (Kd.R_below (bR HO_12.out) hb);have n1_:=Am (Kd.R_below (bR HO_35.out) hb);have n2_:=Am (Kd.R_below (bR HO405.out) hb);have n3_:=Am (blk_below (bB BK385.out) hb);have n4_:=Am (bT (by repeat (first|(with_reducible first|exact HB.out|apply bA|apply bN|apply bD|refine bS ?_ GE385.out)|exact HB.out)) hb);have n5_:=Am (hbox);have n6_:=Am ((by rw [hg];exact (bU (by repeat (first|(with_reducible first|exact HB.out|apply bA|apply bN|apply bD|refine bS ?_ GE385.out)|exact HB.out))):w.heap.size ≤ gb406));have n7_:=n6_;have n8_:=Am ((by rw [hg];exact Nat.ne_of_lt (blk_lt (bB BK385.out)):gb385 ≠ gb406));have n9_:=Am ((by rw [hg];exact Nat.ne_of_gt (blk_lt (bB BK385.out)):gb406 ≠ gb385));clear HO_12 HO_35 HO405 BK385 HB;have HO_12:=n0_;have HO_35:=n1_;have HO405:=n2_;have BK385:=n3_;have HB:=n4_;have BK406:=n5_;have GW406:=n6_;have GE406:=n7_;have NB385_406:=n8_;have NB406_385:=n9_;clear n0_ n1_ n2_ n3_ n4_ n5_ n6_ n7_ n8_ n9_ hb hbox hg;have hnb40:=NB406_385.out;have hnc40:=NB385_406.out;have hcz41_0:w39.cell? ⟨gb406,0,none⟩ = some (.string (⟨#[]⟩:ByteArray)):=bM BK406.out 0 rfl;have hcz41_1:w39.cell? ⟨gb406,1,none⟩ = some (.slice none 0 0):=bM BK406.out 1 rfl;have hcz41_2:w39.cell? ⟨gb406,2,none⟩ = some (.bool false):=bM BK406.out 2 rfl;have hcz41_3:w39.cell? ⟨gb406,3,none⟩ = some (.string (⟨#[]⟩:ByteArray)):=bM BK406.out 3 rfl;have hfz41_0:=bZ BK406.out 0;have hfz41_1:=bZ BK406.out 1;have hfz41_2:=bZ BK406.out 2;have hfz41_3:=bZ BK406.out 3)|((with_reducible refine gate_callee (f:=28) rfl ?_);refine goesL_ (some 61) rfl rfl Tryd.func28 (by kernel_rfl) rfl #[.agg #[.string a0, .slice Ao38 t403.length co38, .bool t388, .string t389]] rfl (aE1 rfl) ?_;(with_reducible refine (impl_AddrOk.calls k1 a0 _ _ t403 t388 t389 false _ ?side1 ?side2 A25.out).mono ?_);(case side1=>refine (Kd.R_reads' (e:=9) (base:=w.heap.size) (ok:=fun k_=>((True ∧ some k_ ≠ (.slice Ao36 x12_1.length co36:Value).ownBlock) ∧ some k_ ≠ (.slice Ao13 t394.length co13:Value).ownBlock)) (n:=t403.length) (c:=co38) ?_).2.2;exact (by (with_reducible repeat (first|apply rA|apply rN|apply rD));exact (bQ HO405.out BK406.out (by decide) _ _ _ _)));(case side2=>exact (Kd.R_reads' HO405.out).2.1);rintro e w42 ⟨rfl,hb⟩;refine ⟨_,rfl,?_⟩;have n0_:=Am (Kd.R_below (by (with_reducible repeat (first|apply rA|apply rN|apply rD));exact (bQ HO_12.out BK406.out (by decide) _ _ _ _)) hb);have n1_:=Am (Kd.R_below (by (with_reducible repeat (first|apply rA|apply rN|apply rD));exact (bQ HO_35.out BK406.out (by decide) _ _ _ _)) hb);have n2_:=Am (Kd.R_below (by (with_reducible repeat (first|apply rA|apply rN|apply rD));exact (bQ HO405.out BK406.out (by decide) _ _ _ _)) hb);have n3_:=Am (blk_below (g:=gb385) (o:=.cells #[.string x386000_1, .slice none 0 0, .bool x386002_1, .string x386003_1] 25 (0,0)) (by refine bB ?_;refine bF ?_ NB385_406.out;refine bB ?_;exact BK385.out) hb);have n4_:=Am (blk_below (g:=gb406) (o:=.cells #[.string a0, .slice Ao38 t403.length co38, .bool t388, .string t389] 25 (0,0)) (by refine bB ?_;apply bP;refine bB ?_;exact BK406.out) hb);have n5_:=Am (bT (by repeat (first|(with_reducible first|exact HB.out|apply bA|apply bN|apply bD|refine bS ?_ GE385.out|refine bS ?_ GE406.out)|exact HB.out)) hb);clear HO_12 HO_35 HO405 BK385 BK406 HB;have HO_12:=n0_;have HO_35:=n1_;have HO405:=n2_;have BK385:=n3_;have BK406:=n4_;have HB:=n5_;clear n0_ n1_ n2_ n3_ n4_ n5_;(try clear hb);have hcz43_0:w42.cell? ⟨gb385,0,none⟩ = some (.string x386000_1):=bM BK385.out 0 rfl;have hcz43_1:w42.cell? ⟨gb385,1,none⟩ = some (.slice none 0 0):=bM BK385.out 1 rfl;have hcz43_2:w42.cell? ⟨gb385,2,none⟩ = some (.bool x386002_1):=bM BK385.out 2 rfl;have hcz43_3:w42.cell? ⟨gb385,3,none⟩ = some (.string x386003_1):=bM BK385.out 3 rfl;have hfz43_0:=bZ BK385.out 0;have hfz43_1:=bZ BK385.out 1;have hfz43_2:=bZ BK385.out 2;have hfz43_3:=bZ BK385.out 3))
      refine bodyPost_ret (results_ct rfl _ _ gb385 25 #[.string (⟨#[]⟩:ByteArray), .slice none 0 0, .bool false, .string (⟨#[]⟩:ByteArray)] (0,0) _ rfl (by refine bB ?_;apply bP;refine bB ?_;exact BK385.out) Tryd.underlying25 rfl (by kernel_rfl)) rfl ?_
      exact ⟨_,by first|rfl|(simp <;> rfl)|(simp [*] <;> rfl),by first|exact Kd.R_nil _ _ _ _ _|exact Kd.N_nil _ _ _ _ _|exact Kd.V_nil _ _ _ _ _|exact Kd.Q_nil _ _ _ _ _|exact Kd.S_nil _ _ _ _ _,by repeat (first|(with_reducible first|exact HB.out|apply bA|apply bN|apply bD|refine bS ?_ GE385.out|refine bS ?_ GE406.out)|exact HB.out)⟩
 ·replace c6:=Bool.eq_false_iff.mpr c6
  subst c6
  have H1:(some ((⟨#[]⟩:ByteArray),([]:List ByteArray),false,(⟨#[]⟩:ByteArray),false)) = some (r1,r2,r3,r4,r5):=by rw [if_neg (show ¬ (false = true) by decide)] at H;exact H
  clear H
  have H:=H1
  clear H1
  simp only [Option.some.injEq,Prod.mk.injEq] at H
  obtain ⟨rfl,rfl,rfl,rfl,rfl⟩:=H
  go_enter Tryd.func40,Tryd.ntmps40
  go_wp2_with (first|((with_reducible refine gate_dst (N:=6) rfl ?_);refine box_event ?hg (N:=6) ?hd (cs:=#[.string (⟨#[]⟩:ByteArray), .slice none 0 0, .bool false, .string (⟨#[]⟩:ByteArray)]) (t:=25) ?hr ?_;(case hd=>rfl);(case hg=>rfl);(case hr=>(go_simp <;> rfl));intro gb385 hg w44 hbox hb;have n0_:=Am (bT (by repeat (first|(with_reducible first|exact HB.out|apply bA|apply bN|apply bD)|exact HB.out)) hb);have n1_:=Am (hbox);have n2_:=Am ((by rw [hg];exact (bU (by repeat (first|(with_reducible first|exact HB.out|apply bA|apply bN|apply bD)|exact HB.out))):w.heap.size ≤ gb385));have n3_:=n2_;clear HB;have HB:=n0_;have BK385:=n1_;have GW385:=n2_;have GE385:=n3_;clear n0_ n1_ n2_ n3_ hb hbox hg)|((with_reducible refine gate_callee (f:=36) rfl ?_);refine goesL_ (some 20) rfl rfl Tryd.func36 (by kernel_rfl) rfl #[.string a2, .string (⟨#[63]⟩:ByteArray)] rfl (aE2 rfl rfl) ?_;(with_reducible refine (strings_Cut.calls a2 (⟨#[63]⟩:ByteArray) t386 t387 t388 _ A4.out).mono ?_);rintro e w' ⟨rfl,⟨nd,rfl⟩⟩;refine ⟨_,rfl,?_⟩;(try (rw [drewN_self w44];generalize hq_:World.drewN w44 _ = w44;have n0_:Aside0 (w44.heap[gb385]? = some (.cells #[.string (⟨#[]⟩:ByteArray), .slice none 0 0, .bool false, .string (⟨#[]⟩:ByteArray)] 25 (0,0))):=⟨by rw [← hq_];exact (bB BK385.out)⟩;have n1_:Aside0 (Below w.heap.size w w44):=⟨by rw [← hq_];exact (by repeat (first|(with_reducible first|exact HB.out|apply bA|apply bN|apply bD|refine bS ?_ GE385.out)|exact HB.out))⟩;clear BK385 HB hq_;have BK385:=n0_;have HB:=n1_;clear n0_ n1_)))|((with_reducible refine gate_callee (f:=67) rfl ?_);refine goesL_ (some 26) rfl rfl Tryd.func67 (by kernel_rfl) rfl #[.string t387] rfl (aE1 rfl) ?_;(with_reducible refine (impl_EscNorm.calls k t387 t389 false _ A5.out).mono ?_);rintro e w45 ⟨rfl,hb⟩;refine ⟨_,rfl,?_⟩;have n0_:=Am (blk_below (bB BK385.out) hb);have n1_:=Am (bT (by repeat (first|(with_reducible first|exact HB.out|apply bA|apply bN|apply bD|refine bS ?_ GE385.out)|exact HB.out)) hb);clear BK385 HB;have BK385:=n0_;have HB:=n1_;clear n0_ n1_;(try clear hb);have hcz46_0:w45.cell? ⟨gb385,0,none⟩ = some (.string (⟨#[]⟩:ByteArray)):=bM BK385.out 0 rfl;have hcz46_1:w45.cell? ⟨gb385,1,none⟩ = some (.slice none 0 0):=bM BK385.out 1 rfl;have hcz46_2:w45.cell? ⟨gb385,2,none⟩ = some (.bool false):=bM BK385.out 2 rfl;have hcz46_3:w45.cell? ⟨gb385,3,none⟩ = some (.string (⟨#[]⟩:ByteArray)):=bM BK385.out 3 rfl;have hfz46_0:=bZ BK385.out 0;have hfz46_1:=bZ BK385.out 1;have hfz46_2:=bZ BK385.out 2;have hfz46_3:=bZ BK385.out 3))
  refine bodyPost_ret (results_ct rfl _ _ gb385 25 #[.string (⟨#[]⟩:ByteArray), .slice none 0 0, .bool false, .string (⟨#[]⟩:ByteArray)] (0,0) _ rfl (by refine bB ?_;apply bP;refine bB ?_;exact BK385.out) Tryd.underlying25 rfl (by kernel_rfl)) rfl ?_
  exact ⟨_,by first|rfl|(simp <;> rfl)|(simp [*] <;> rfl),by first|exact Kd.R_nil _ _ _ _ _|exact Kd.N_nil _ _ _ _ _|exact Kd.V_nil _ _ _ _ _|exact Kd.Q_nil _ _ _ _ _|exact Kd.S_nil _ _ _ _ _,by repeat (first|(with_reducible first|exact HB.out|apply bA|apply bN|apply bD|refine bS ?_ GE385.out)|exact HB.out)⟩

/-! ### stringslite_HasPrefix: function 63 -/
def stringslite_HasPrefix.f (a0:ByteArray) (a1:ByteArray):Option (Bool):=if (a0.size:Int) ≥ (a1.size:Int) then (if 0 ≤ (a1.size:Int) then (if (a1.size:Int) ≤ (a0.size:Int) then (some ((a0.extract 0 ((a1.size:Int):Int).toNat).toList == a1.toList)) else (none)) else (none)) else (some false)
theorem stringslite_HasPrefix.calls (a0:ByteArray) (a1:ByteArray) (r:Bool) (w:World) (h:stringslite_HasPrefix.f a0 a1 = some r) :
  Calls Tryd.prog 63 #[.string a0, .string a1] w fun e w'=>e = .returned (.bool r) ∧ Drawn0 w w':=by
 have H:(if (a0.size:Int) ≥ (a1.size:Int) then (if 0 ≤ (a1.size:Int) then (if (a1.size:Int) ≤ (a0.size:Int) then (some ((a0.extract 0 ((a1.size:Int):Int).toNat).toList == a1.toList)) else (none)) else (none)) else (some false)) = some r:=h
 clear h
 by_cases c3:(a0.size:Int) ≥ (a1.size:Int)
 ·rw [if_pos c3] at H
  have c3b0:decide ((a1.size:Int) ≤ (a0.size:Int)) = true:=decide_eq_true c3
  have c3b1:decide (a1.size ≤ a0.size) = true:=decide_eq_true (Int.ofNat_le.mp c3)
  clear c3
  by_cases c4:0 ≤ (a1.size:Int)
  ·rw [if_pos c4] at H
   have c4b0:=eq_true c4
   have c4b1:=decide_eq_true c4
   clear c4
   by_cases c5:(a1.size:Int) ≤ (a0.size:Int)
   ·rw [if_pos c5] at H
    have c5b0:=eq_true c5
    have c5b1:=decide_eq_true c5
    clear c5
    obtain rfl:=Option.some.inj H
    go_enter Tryd.func63,Tryd.ntmps63
    go_wp2
    go_ret
    exact ⟨by first|rfl|(simp;done)|(simp only [i64_w,i32_w] <;> rfl)|(simp [*];done)|(simp [emp_bne,emp_beq];done),by repeat (first|exact Drawn0.refl _|apply Drawn0.step)⟩
   ·rw [if_neg c5] at H
    exact absurd H (by simp)
  ·rw [if_neg c4] at H
   exact absurd H (by simp)
 ·rw [if_neg c3] at H
  have c3b0:decide ((a1.size:Int) ≤ (a0.size:Int)) = false:=decide_eq_false c3
  have c3b1:decide (a1.size ≤ a0.size) = false:=decide_eq_false (fun h=>c3 (Int.ofNat_le.mpr h))
  clear c3
  obtain rfl:=Option.some.inj H
  go_enter Tryd.func63,Tryd.ntmps63
  go_wp2
  go_ret
  exact ⟨by first|rfl|(simp;done)|(simp only [i64_w,i32_w] <;> rfl)|(simp [*];done)|(simp [emp_bne,emp_beq];done),by repeat (first|exact Drawn0.refl _|apply Drawn0.step)⟩

/-! ### stringslite_CutPrefix: function 81 -/
def stringslite_CutPrefix.f (a0:ByteArray) (a1:ByteArray):Option (ByteArray × Bool):=(stringslite_HasPrefix.f a0 a1).bind fun t408=>(if t408 = true then (if 0 ≤ (a1.size:Int) then (if (a1.size:Int) ≤ (a0.size:Int) then (some (a0.extract ((a1.size:Int):Int).toNat a0.size,true)) else (none)) else (none)) else (some (a0,false)))
theorem stringslite_CutPrefix.calls (a0:ByteArray) (a1:ByteArray) (r1:ByteArray) (r2:Bool) (w:World) (h:stringslite_CutPrefix.f a0 a1 = some (r1,r2)) :
  Calls Tryd.prog 81 #[.string a0, .string a1] w fun e w'=>e = .returned (.tuple #[.string r1, .bool r2]) ∧ Drawn0 w w':=by
 have H:((stringslite_HasPrefix.f a0 a1).bind fun t408=>(if t408 = true then (if 0 ≤ (a1.size:Int) then (if (a1.size:Int) ≤ (a0.size:Int) then (some (a0.extract ((a1.size:Int):Int).toNat a0.size,true)) else (none)) else (none)) else (some (a0,false)))) = some (r1,r2):=h
 clear h
 replace H:=bI H
 obtain ⟨t408,A30,H⟩:=H
 replace H:(if t408 = true then (if 0 ≤ (a1.size:Int) then (if (a1.size:Int) ≤ (a0.size:Int) then (some (a0.extract ((a1.size:Int):Int).toNat a0.size,true)) else (none)) else (none)) else (some (a0,false))) = some (r1,r2):=H
 have A3:=Am A30
 clear A30
 by_cases c4:t408 = true
 ·subst c4
  have H1:(if 0 ≤ (a1.size:Int) then (if (a1.size:Int) ≤ (a0.size:Int) then (some (a0.extract ((a1.size:Int):Int).toNat a0.size,true)) else (none)) else (none)) = some (r1,r2):=by rw [if_pos rfl] at H;exact H
  clear H
  have H:=H1
  clear H1
  by_cases c5:0 ≤ (a1.size:Int)
  ·rw [if_pos c5] at H
   have c5b0:=eq_true c5
   have c5b1:=decide_eq_true c5
   clear c5
   by_cases c6:(a1.size:Int) ≤ (a0.size:Int)
   ·rw [if_pos c6] at H
    have c6b0:=eq_true c6
    have c6b1:=decide_eq_true c6
    clear c6
    simp only [Option.some.injEq,Prod.mk.injEq] at H
    obtain ⟨rfl,rfl⟩:=H
    go_enter Tryd.func81,Tryd.ntmps81
    go_wp2_with (first|((with_reducible refine gate_callee (f:=63) rfl ?_);refine goesL_ (some 8) rfl rfl Tryd.func63 (by kernel_rfl) rfl #[.string a0, .string a1] rfl (aE2 rfl rfl) ?_;(with_reducible refine (stringslite_HasPrefix.calls a0 a1 true _ A3.out).mono ?_);rintro e w' ⟨rfl,⟨nd,rfl⟩⟩;refine ⟨_,rfl,?_⟩))
    go_ret2
    exact ⟨by first|rfl|(simp;done)|(simp only [i64_w,i32_w] <;> rfl)|(simp [*];done)|(simp [emp_bne,emp_beq];done),by repeat (first|exact Drawn0.refl _|apply Drawn0.step)⟩
   ·rw [if_neg c6] at H
    exact absurd H (by simp)
  ·rw [if_neg c5] at H
   exact absurd H (by simp)
 ·replace c4:=Bool.eq_false_iff.mpr c4
  subst c4
  have H1:(some (a0,false)) = some (r1,r2):=by rw [if_neg (show ¬ (false = true) by decide)] at H;exact H
  clear H
  have H:=H1
  clear H1
  simp only [Option.some.injEq,Prod.mk.injEq] at H
  obtain ⟨rfl,rfl⟩:=H
  go_enter Tryd.func81,Tryd.ntmps81
  go_wp2_with (first|((with_reducible refine gate_callee (f:=63) rfl ?_);refine goesL_ (some 8) rfl rfl Tryd.func63 (by kernel_rfl) rfl #[.string a0, .string a1] rfl (aE2 rfl rfl) ?_;(with_reducible refine (stringslite_HasPrefix.calls a0 a1 false _ A3.out).mono ?_);rintro e w' ⟨rfl,⟨nd,rfl⟩⟩;refine ⟨_,rfl,?_⟩))
  go_ret2
  exact ⟨by first|rfl|(simp;done)|(simp only [i64_w,i32_w] <;> rfl)|(simp [*];done)|(simp [emp_bne,emp_beq];done),by repeat (first|exact Drawn0.refl _|apply Drawn0.step)⟩

/-! ### strings_CutPrefix: function 64 -/
def strings_CutPrefix.f (a0:ByteArray) (a1:ByteArray):Option (ByteArray × Bool):=(stringslite_CutPrefix.f a0 a1).bind fun bt409=>(some (bt409.1,bt409.2))
theorem strings_CutPrefix.calls (a0:ByteArray) (a1:ByteArray) (r1:ByteArray) (r2:Bool) (w:World) (h:strings_CutPrefix.f a0 a1 = some (r1,r2)) :
  Calls Tryd.prog 64 #[.string a0, .string a1] w fun e w'=>e = .returned (.tuple #[.string r1, .bool r2]) ∧ Drawn0 w w':=by
 have H:((stringslite_CutPrefix.f a0 a1).bind fun bt409=>(some (bt409.1,bt409.2))) = some (r1,r2):=h
 clear h
 replace H:=bI H
 obtain ⟨⟨t409,t410⟩,A30,H⟩:=H
 replace H:(some (t409,t410)) = some (r1,r2):=H
 have A3:=Am A30
 clear A30
 simp only [Option.some.injEq,Prod.mk.injEq] at H
 obtain ⟨rfl,rfl⟩:=H
 go_enter Tryd.func64,Tryd.ntmps64
 go_wp2_with (first|((with_reducible refine gate_callee (f:=81) rfl ?_);refine goesL_ (some 8) rfl rfl Tryd.func81 (by kernel_rfl) rfl #[.string a0, .string a1] rfl (aE2 rfl rfl) ?_;(with_reducible refine (stringslite_CutPrefix.calls a0 a1 t409 t410 _ A3.out).mono ?_);rintro e w' ⟨rfl,⟨nd,rfl⟩⟩;refine ⟨_,rfl,?_⟩))
 go_ret2
 exact ⟨by first|rfl|(simp;done)|(simp only [i64_w,i32_w] <;> rfl)|(simp [*];done)|(simp [emp_bne,emp_beq];done),by repeat (first|exact Drawn0.refl _|apply Drawn0.step)⟩

/-! ### strings_IndexAny: function 65 -/
def strings_IndexAny.f (a0 a1:ByteArray):Option Int:=if a1.data.toList = [47,63] ∧ a0.size ≤ 1000000 then some (Go.Lib.indexAny a0.data.toList [47,63]) else none
def strings_IndexAny.two:ByteArray:=⟨#[47,63]⟩
theorem strings_IndexAny.two_size:strings_IndexAny.two.size = 2:=rfl
theorem strings_IndexAny.two_at (p:Nat) (h:p < 2):Utf8.decode strings_IndexAny.two p = ((if p = 0 then 47 else 63),1):=by
 have hc:p = 0 ∨ p = 1:=by omega
 rcases hc with rfl|rfl <;> rfl
set_option maxHeartbeats 2000000 in
set_option maxRecDepth 100000 in
theorem strings_IndexAny.bad (w:World) :
  Calls Tryd.prog 82 #[.string strings_IndexAny.two, .int .i32 65533] w fun e w'=>e = .returned (.int .i64 (-1)) ∧ Below w.heap.size w w':=by
 have HX:=Am (fun (p:Nat) (ty:TypeId) (hp:p < strings_IndexAny.two.size)=>run_next_any (P:=Tryd.prog) w strings_IndexAny.two p ty hp)
 have HE:=Am (fun (p:Nat) (ty:TypeId) (hp:¬ p < strings_IndexAny.two.size)=>run_next_end (P:=Tryd.prog) w strings_IndexAny.two p ty hp)
 go_enter Tryd.func82,Tryd.ntmps82
 go_wp2
 go_loopw [] (fun w'=>∃ p:Nat,p ≤ 2 ∧ w' = w.iter strings_IndexAny.two p) (fun w'=>2 - w'.iterPos w.heap.size)
 case atStart=>exact ⟨0,Nat.zero_le _,rfl⟩
 case round =>
  obtain ⟨p,hp,rfl⟩:=hrel
  by_cases hlt:p < 2
  ·obtain ⟨q,hq0,hq1,hq⟩:∃ q:Nat,1 ≤ q ∧ q ≤ 100 ∧ Utf8.decode strings_IndexAny.two p = (q,1):=⟨_,by split <;> omega,by split <;> omega,strings_IndexAny.two_at p hlt⟩
   have hx:∀ ty,(Instr.next (.pointer (some ⟨w.heap.size,0,none⟩)) true ty).run Tryd.prog (w.iter strings_IndexAny.two p) = .ok (.tuple #[.bool true, .int .i64 p, .int .i32 q]) (w.iter strings_IndexAny.two (p + 1)):=fun ty=>by
    rw [HX.out p ty hlt,hq]
   have hd:((q:Int) == 65533) = false:=beq_eq_false_iff_ne.mpr (by omega)
   clear hq hq0 hq1
   go_wp2
   go_roundw
   case rel=>exact ⟨p + 1,by omega,rfl⟩
   case measure=>simp;omega
  ·obtain rfl:p = 2:=by omega
   have hx:=fun ty=>HE.out 2 ty (by decide)
   go_wp2
   go_ret
   exact ⟨rfl,below_alloc (Below.refl _ _) _⟩
theorem strings_IndexAny.rest (x:Int) (W:World):Calls Tryd.prog 96 #[.string (strings_IndexAny.two.extract 2 2), .int .u8 x] W fun e w'=>e = .returned (.int .i64 (-1)) ∧ w' = W :=
 Tryd.strings_IndexByte _ x W
theorem strings_IndexAny.later {f:FuncId} {args:Array Value} {w:World} {a n:Nat} {v:Value} (h:Calls Tryd.prog f args (w.drewN (a + n)) fun e w'=>e = .returned v ∧ w' = w.drewN (a + n)) :
  Calls Tryd.prog f args (w.drewN (a + n)) fun e w''=>e = .returned v ∧ ∃ m,w'' = w.drewN (a + m) :=
 h.mono fun _ _ ⟨he,hm⟩=>⟨he,n,hm⟩
set_option maxHeartbeats 2000000 in
set_option maxRecDepth 100000 in
theorem strings_IndexAny.rune (r:Int) (w:World) (h0:128 ≤ r) (h1:r ≤ 1114111) (h2:r < 55296 ∨ 57343 < r) :
  Calls Tryd.prog 82 #[.string strings_IndexAny.two, .int .i32 r] w fun e w'=>e = .returned (.int .i64 (-1)) ∧ Below w.heap.size w w':=by
 by_cases hb:r = 65533
 ·subst hb;exact strings_IndexAny.bad w
 have hd:(r == 65533) = false:=beq_eq_false_iff_ne.mpr hb
 have hv:Go.Lib.validRune r = true:=by unfold Go.Lib.validRune;exact decide_eq_true (by omega)
 have hv2:Utf8.valid r = true:=by
  unfold Utf8.valid
  simp only [Bool.or_eq_true,Bool.and_eq_true,decide_eq_true_eq]
  omega
 obtain ⟨hs2,hs4,hs1⟩:=encode_facts r hv2 h0
 obtain ⟨s,hs⟩:∃ s,Utf8.encode r = s:=⟨_,rfl⟩
 rw [hs] at hs2 hs4
 have hs3:∀ h:s.size - 1 < s.size,128 ≤ (s[s.size - 1]'h).toNat:=by subst hs;exact hs1
 have hl:¬ r < 128:=by omega
 have hge:(0:Int) ≤ r:=by omega
 have HV:=Am hv
 have H1:=Am hs3
 clear hv hv2 hb h2 h1 h0 hs1 hs3
 have ht:=strings_IndexAny.two_size
 by_cases c:s.size = 2
 ·have hlt1:1 < s.size:=by omega
  have htl:1 < strings_IndexAny.two.size:=by decide
  have h63:strings_IndexAny.two[1]'htl = 63:=rfl
  have hlast:128 ≤ (s[1]'hlt1).toNat:=by
   have:=H1.out (by omega)
   have e:s.size - 1 = 1:=by omega
   simpa only [e] using this
  have hne:((63:Int) == ((s[1]'hlt1).toNat:Int)) = false:=beq_eq_false_iff_ne.mpr (by omega)
  have hne2:((63:Int) != ((s[1]'hlt1).toNat:Int)) = true:=bne_iff_ne.mpr (by omega)
  have h63n:((strings_IndexAny.two[1]'htl).toNat:Int) = 63:=rfl
  clear H1 hlast hs2 hs4 h63
  go_enter Tryd.func82,Tryd.ntmps82
  go_wp2_with (go_at_call 97;refine (Tryd.utf8_ValidRune _ _).mono ?_;rintro e w' ⟨rfl,hw⟩;rw [hw,HV.out])
  go_step3
  go_wp2
  refine wp_loop_rounds 1 ?_
  rw [rounds_succ]
  go_wp2
  go_step3
  go_wp2
  go_quiet (fail)
  go_wp2
  go_quiet ((go_at_call 96;exact strings_IndexAny.later (strings_IndexAny.rest _ _)))
  go_wp2
  rw [Exit.noGoto_ret]
  go_wp2
  rw [Exit.noGoto_ret]
  go_ret
  exact ⟨rfl,pw_below_drewN (Below.refl _ _) _⟩
 ·have c3:(2:Int) ≤ (s.size:Int) - 1:=by omega
  clear c
  go_enter Tryd.func82,Tryd.ntmps82
  go_wp2_with (go_at_call 97;refine (Tryd.utf8_ValidRune _ _).mono ?_;rintro e w' ⟨rfl,hw⟩;rw [hw,HV.out])
  go_step3
  go_wp2
  refine wp_loop_rounds 1 ?_
  rw [rounds_succ]
  go_wp2
  rw [Exit.noGoto_ret]
  go_ret
  exact ⟨rfl,Below.refl _ _⟩
theorem strings_IndexAny.get (s:ByteArray) (j:Nat) (h:j < s.size):s.data.toList[j]? = some (s.get! j):=by
 rw [Go.Lib.data_getElem? s j h]
 congr 1
 exact (getElem!_pos s.data j h).symm
theorem strings_IndexAny.dec (s:ByteArray) (i:Nat) (h:i < s.size) (hb:128 ≤ (s.get! i).toNat) :
  ∃ r n:Nat,Utf8.decode s i = (r,n) ∧ 128 ≤ r ∧ r ≤ 1114111 ∧ (r < 55296 ∨ 57343 < r) ∧ 1 ≤ n ∧ ∀ j,i ≤ j → j < i + n → j < s.size ∧ 128 ≤ (s.get! j).toNat:=by
 have one:∀ j,i ≤ j → j < i + 1 → j < s.size ∧ 128 ≤ (s.get! j).toNat:=fun j h1 h2=>by
  obtain rfl:j = i:=by omega
  exact ⟨h,hb⟩
 have bad:∃ r n:Nat,(Utf8.runeError,1) = (r,n) ∧ 128 ≤ r ∧ r ≤ 1114111 ∧ (r < 55296 ∨ 57343 < r) ∧ 1 ≤ n ∧ ∀ j,i ≤ j → j < i + n → j < s.size ∧ 128 ≤ (s.get! j).toNat :=
  ⟨_,_,rfl,by unfold Utf8.runeError;omega,by unfold Utf8.runeError;omega, .inr (by unfold Utf8.runeError;omega),Nat.le_refl _,one⟩
 have byte:∀ k,(s.get! k).toNat < 256:=fun k=>(s.get! k).toNat_lt
 unfold Utf8.decode
 simp only [Nat.add_zero]
 rw [if_neg (by omega)]
 have b0:=byte i
 split
 ·rename_i c
  simp only [Bool.and_eq_true,decide_eq_true_eq,beq_iff_eq] at c
  split
  ·refine ⟨_,_,rfl,by omega,by have:=byte (i + 1);omega, .inl (by omega),by omega,fun j h1 h2=>?_⟩
   rcases (by omega:j = i ∨ j = i + 1) with rfl|rfl
   ·exact ⟨h,hb⟩
   ·exact ⟨c.2.1,by omega⟩
  ·exact bad
 split
 ·rename_i c
  simp only [Bool.and_eq_true,decide_eq_true_eq,beq_iff_eq] at c
  split
  ·rename_i v
   simp only [Utf8.valid,Bool.and_eq_true,Bool.or_eq_true,decide_eq_true_eq] at v
   refine ⟨_,_,rfl,by omega,by omega,by omega,by omega,fun j h1 h2=>?_⟩
   rcases (by omega:j = i ∨ j = i + 1 ∨ j = i + 2) with rfl|rfl|rfl
   ·exact ⟨h,hb⟩
   ·exact ⟨c.1.2.1,by omega⟩
   ·exact ⟨c.2.1,by omega⟩
  ·exact bad
 split
 ·rename_i c
  simp only [Bool.and_eq_true,decide_eq_true_eq,beq_iff_eq] at c
  split
  ·rename_i v
   simp only [Utf8.valid,Bool.and_eq_true,Bool.or_eq_true,decide_eq_true_eq] at v
   refine ⟨_,_,rfl,by omega,by omega,by omega,by omega,fun j h1 h2=>?_⟩
   rcases (by omega:j = i ∨ j = i + 1 ∨ j = i + 2 ∨ j = i + 3) with rfl|rfl|rfl|rfl
   ·exact ⟨h,hb⟩
   ·exact ⟨c.1.1.2.1,by omega⟩
   ·exact ⟨c.1.2.1,by omega⟩
   ·exact ⟨c.2.1,by omega⟩
  ·exact bad
 ·exact bad
theorem strings_IndexAny.past (s:ByteArray) (i n:Nat) (hn:Go.Lib.NoAny s.data.toList [47,63] i) (hb:∀ j,i ≤ j → j < i + n → j < s.size ∧ 128 ≤ (s.get! j).toNat):Go.Lib.NoAny s.data.toList [47,63] (i + n):=by
 intro j b hj he
 by_cases c:j < i
 ·exact hn j b c he
 ·obtain ⟨h1,h2⟩:=hb j (by omega) hj
  rw [strings_IndexAny.get s j h1] at he
  obtain rfl:=Option.some.inj he
  have e1:¬ s.get! j = 47:=fun e=>by rw [e] at h2;exact absurd h2 (by decide)
  have e2:¬ s.get! j = 63:=fun e=>by rw [e] at h2;exact absurd h2 (by decide)
  simp [e1,e2]
theorem strings_IndexAny.plain (r:Int) (w:World) (h0:0 ≤ r) (h1:r < 128) :
  Calls Tryd.prog 82 #[.string strings_IndexAny.two, .int .i32 r] w fun e w'=>e = .returned (.int .i64 (if r = 47 then 0 else if r = 63 then 1 else -1)) ∧ w' = w:=by
 refine (Tryd.strings_IndexRune_ascii strings_IndexAny.two r w h0 h1).mono fun e w' ⟨he,hw⟩=>⟨?_,hw⟩
 rw [he]
 obtain ⟨n,rfl⟩:=Int.eq_ofNat_of_zero_le h0
 have hn:n < 128:=by omega
 show Ending.returned (Value.int .i64 (Go.Lib.indexByte [47,63] (n.toUInt8))) = _
 congr 2
 have key:∀ m:Fin 128,Go.Lib.indexByte [47,63] (m.val.toUInt8) = if (m.val:Int) = 47 then 0 else if (m.val:Int) = 63 then 1 else -1:=by decide
 exact key ⟨n,hn⟩
set_option maxHeartbeats 4000000 in
set_option maxRecDepth 100000 in
theorem strings_IndexAny.short (s:ByteArray) (w:World) (h8:s.size ≤ 8) :
  Calls Tryd.prog 65 #[.string s, .string strings_IndexAny.two] w fun e w'=>e = .returned (.int .i64 (Go.Lib.indexAny s.data.toList [47,63])) ∧ Below w.heap.size w w':=by
 have hemp:strings_IndexAny.two.toList.isEmpty = false:=by rw [Go.ByteArray.toList_eq];rfl
 have hn1:((strings_IndexAny.two.size:Int) == 1) = false:=rfl
 have h8z:decide ((8:Int) < (s.size:Int)) = false:=decide_eq_false (by omega)
 have HL:=Am (show s.data.toList.length = s.size from (Go.Lib.size_eq s).symm)
 go_enter Tryd.func65,Tryd.ntmps65
 go_wp2_with (go_at_call 83;refine (Tryd.strings_shouldUseASCIISet _ _).mono ?_;rintro e w' ⟨rfl,hw⟩;rw [hw,h8z])
 clear h8z hemp hn1
 go_loopg [9,10] s.size (fun g _ _ wr=>∃ i:Nat,i + g = s.size ∧ wr.heap[w.heap.size]? = some (.stringIter s i) ∧ Aside0 (Below w.heap.size w wr) ∧ Aside0 (Go.Lib.NoAny s.data.toList [47,63] i))
 case atStart=>exact ⟨0,by omega,World.iter_heap w s 0,⟨below_alloc (Below.refl _ _) _⟩,⟨Go.Lib.NoAny.zero _ _⟩⟩
 case round =>
  obtain ⟨i,hig,hk,HB,HN⟩:=hrel
  have HK:=Am hk
  have hsz:w.heap.size < wr.heap.size:=(Array.getElem?_eq_some_iff.1 hk).1
  by_cases hz:i < s.size
  rotate_left
  ·obtain rfl:i = s.size:=by omega
   have hnx:=fun ty=>Go.Lib.run_next_end_at (P:=Tryd.prog) wr w.heap.size s s.size ty HK.out (by omega)
   clear hk
   go_wp2
   go_ret
   exact ⟨by rw [Go.Lib.indexAny_none (by rw [HL.out];exact HN.out)];rfl,HB.out⟩
  by_cases hb:128 ≤ (s.get! i).toNat
  ·obtain ⟨r,n,hd,r0,r1,r2,n1,hall⟩:=strings_IndexAny.dec s i hz hb
   have hnx:∀ ty,(Instr.next (.pointer (some ⟨w.heap.size,0,none⟩)) true ty).run Tryd.prog wr = .ok (.tuple #[.bool true, .int .i64 i, .int .i32 r]) (wr.iterAt w.heap.size s (i + n)):=fun ty=>by
    rw [Go.Lib.run_next_any_at wr w.heap.size s i ty HK.out hz,hd]
   have HP:=Am (strings_IndexAny.past s i n HN.out hall)
   have hin:i + n ≤ s.size:=by
    have:=(hall (i + n - 1) (by omega) (by omega)).1
    omega
   clear hk hd hall hb
   go_wp2_with (go_at_call 82;refine (strings_IndexAny.rune r _ (by omega) (by omega) (by omega)).mono ?_;rintro e w1 ⟨rfl,hbl⟩)
   go_roundg (s.size - (i + n))
   case measure=>omega
   case rel =>
    have hs2:(wr.iterAt w.heap.size s (i + n)).heap.size = wr.heap.size:=Go.Lib.iterAt_size _ _ _ _
    refine ⟨i + n,by omega,?_,⟨?_⟩,HP⟩
    ·rw [hbl.block w.heap.size (by rw [hs2];exact hsz)]
     exact Go.Lib.iterAt_heap _ _ _ _ _ HK.out
    ·exact below_then (Go.Lib.below_iterAt HB.out (Nat.le_refl _) s (i + n)) (by rw [hs2];omega) hbl
  ·obtain ⟨x,hx⟩:∃ x:UInt8,s[i]'hz = x:=⟨_,rfl⟩
   have hxl:s.data.toList[i]? = some x:=by rw [← hx];exact Go.Lib.data_getElem? s i hz
   have hx128:x.toNat < 128:=by
    have:=strings_IndexAny.get s i hz
    rw [hxl] at this
    obtain rfl:=Option.some.inj this
    omega
   have hnx:∀ ty,(Instr.next (.pointer (some ⟨w.heap.size,0,none⟩)) true ty).run Tryd.prog wr = .ok (.tuple #[.bool true, .int .i64 i, .int .i32 x.toNat]) (wr.iterAt w.heap.size s (i + 1)):=fun ty=>by
    rw [Go.Lib.run_next_ascii_at wr w.heap.size s i ty HK.out hz (by rw [hx];exact hx128),hx]
   have HX:=Am hxl
   clear hk hx hxl hb
   by_cases h47:x.toNat = 47
   ·have HI:=Am (Go.Lib.indexAny_hit HN.out HX.out (show ([47,63]:List UInt8).contains x = true by rw [show x = 47 from UInt8.toNat_inj.mp h47];rfl))
    rw [h47] at hnx
    clear h47 hx128
    go_wp2_with (go_at_call 82;refine (strings_IndexAny.plain 47 _ (by omega) (by omega)).mono ?_;rintro e w1 ⟨rfl,hw⟩;rw [hw])
    go_ret
    exact ⟨by rw [HI.out];rfl,Go.Lib.below_iterAt HB.out (Nat.le_refl _) s (i + 1)⟩
   by_cases h63:x.toNat = 63
   ·have HI:=Am (Go.Lib.indexAny_hit HN.out HX.out (show ([47,63]:List UInt8).contains x = true by rw [show x = 63 from UInt8.toNat_inj.mp h63];rfl))
    rw [h63] at hnx
    clear h63 h47 hx128
    go_wp2_with (go_at_call 82;refine (strings_IndexAny.plain 63 _ (by omega) (by omega)).mono ?_;rintro e w1 ⟨rfl,hw⟩;rw [hw])
    go_ret
    exact ⟨by rw [HI.out];rfl,Go.Lib.below_iterAt HB.out (Nat.le_refl _) s (i + 1)⟩
   ·have HP:=Am (HN.out.succ HX.out (show ([47,63]:List UInt8).contains x = false by
     have e1:¬ x = 47:=fun e=>h47 (by rw [e];rfl)
     have e2:¬ x = 63:=fun e=>h63 (by rw [e];rfl)
     simp [e1,e2]))
    have HM:=Am (show (if (x.toNat:Int) = 47 then (0:Int) else if (x.toNat:Int) = 63 then 1 else -1) = -1 by rw [if_neg (by omega),if_neg (by omega)])
    clear h47 h63
    go_wp2_with (go_at_call 82;refine (strings_IndexAny.plain x.toNat _ (by omega) (by omega)).mono ?_;rintro e w1 ⟨rfl,hw⟩;rw [hw,HM.out])
    go_roundg (s.size - (i + 1))
    case measure=>omega
    case rel=>exact ⟨i + 1,by omega,Go.Lib.iterAt_heap _ _ _ _ _ HK.out,⟨Go.Lib.below_iterAt HB.out (Nat.le_refl _) s (i + 1)⟩,HP⟩
theorem strings_IndexAny.zero (w:World):(zeroValue 77).run Tryd.prog w = .ok (.agg (Array.replicate 256 (.bool false))) w:=by kernel_rfl
theorem strings_IndexAny.calls (a0 a1:ByteArray) (r:Int) (w:World) (h:strings_IndexAny.f a0 a1 = some r) :
  Calls Tryd.prog 65 #[.string a0, .string a1] w fun e w'=>e = .returned (.int .i64 r) ∧ Below w.heap.size w w':=by
 unfold strings_IndexAny.f at h
 split at h
 rotate_left
 ·cases h
 rename_i hc
 obtain ⟨h1,h2⟩:=hc
 obtain rfl:=Option.some.inj h
 obtain rfl:a1 = strings_IndexAny.two:=ByteArray.ext (Array.toList_inj.mp h1)
 by_cases h8:a0.size ≤ 8
 ·exact strings_IndexAny.short a0 w h8
 ·refine (Tryd.strings_IndexAny_long strings_IndexAny.zero a0 strings_IndexAny.two w (by decide) (by omega) (by omega) (by decide) ?_).mono fun e w' ⟨he,hw⟩=>⟨he,?_⟩
  ·intro j b hb
   have hb':([47,63]:List UInt8)[j]? = some b:=hb
   match j,hb' with
   | 0,hb'=>cases hb';decide
   | 1,hb'=>cases hb';decide
  ·rw [hw];exact below_alloc (below_alloc (Below.refl _ _) _) _

/-! ### impl_smallLetters: function 66 -/
def impl_smallLetters.lo (x:Int):Int:=if 65 ≤ x ∧ x ≤ 90 then x + 32 else x
def impl_smallLetters.f (a0:ByteArray):Option ByteArray:=if a0.size ≤ 1000000 then some (strOfNums ((bytesOf a0).map impl_smallLetters.lo)) else none
def impl_smallLetters.upto (xs:List Int) (k:Nat):List Int:=(xs.take k).map impl_smallLetters.lo ++ xs.drop k
def impl_smallLetters.Row (w wr:World) (e:Nat) (xs:List Int):Prop :=
 Below w.heap.size w wr ∧ ∃ C:Array Value,wr.heap[w.heap.size]? = some (.cells C e (C.size,C.size + 1)) ∧ xs.length ≤ C.size ∧ ∀ j,j < xs.length → C[j]? = some (.int .u8 (xs.getD j 0))
theorem impl_smallLetters.upto_length (xs:List Int) (k:Nat):(impl_smallLetters.upto xs k).length = xs.length:=by
 unfold impl_smallLetters.upto;simp;omega
theorem impl_smallLetters.upto_at (xs:List Int) (k:Nat) (h:k < xs.length):(impl_smallLetters.upto xs k).getD k 0 = xs.getD k 0:=by
 unfold impl_smallLetters.upto
 rw [List.getD_eq_getElem?_getD,List.getElem?_append_right (by simp;omega)]
 simp only [List.length_map,List.length_take,List.getElem?_drop,List.getD_eq_getElem?_getD]
 rw [show k + (k - min k xs.length) = k by omega]
theorem impl_smallLetters.upto_succ (xs:List Int) (k:Nat) (h:k < xs.length):impl_smallLetters.upto xs (k + 1) = (impl_smallLetters.upto xs k).set k (impl_smallLetters.lo (xs.getD k 0)):=by
 unfold impl_smallLetters.upto
 have hl:((xs.take k).map impl_smallLetters.lo).length = k:=by simp;omega
 rw [List.set_append_right k _ (by omega),hl,Nat.sub_self,List.drop_eq_getElem_cons h,List.set_cons_zero,List.take_succ_eq_append_getElem h,List.map_append,List.getD_eq_getElem?_getD,List.getElem?_eq_getElem h]
 simp
theorem impl_smallLetters.upto_same (xs:List Int) (k:Nat) (h:k < xs.length) (hn:¬ (65 ≤ xs.getD k 0 ∧ xs.getD k 0 ≤ 90)):impl_smallLetters.upto xs (k + 1) = impl_smallLetters.upto xs k:=by
 rw [impl_smallLetters.upto_succ xs k h]
 have:impl_smallLetters.lo (xs.getD k 0) = (impl_smallLetters.upto xs k).getD k 0:=by
  rw [impl_smallLetters.upto_at xs k h];unfold impl_smallLetters.lo;rw [if_neg hn]
 rw [this,List.getD_eq_getElem?_getD,List.getElem?_eq_getElem (by rw [impl_smallLetters.upto_length];exact h),Option.getD_some,List.set_getElem_self]
theorem impl_smallLetters.upto_all (xs:List Int):impl_smallLetters.upto xs xs.length = xs.map impl_smallLetters.lo:=by
 unfold impl_smallLetters.upto;simp
theorem impl_smallLetters.Row.new (w:World) (e:Nat) (s:ByteArray):impl_smallLetters.Row w (Lib.bytesWorld w e s) e (bytesOf s):=by
 refine ⟨⟨rfl,rfl,rfl,by rw [Lib.bytesWorld_size];omega,fun k hk=>Lib.bytesWorld_at_old w e s k hk⟩,_,Lib.bytesWorld_at_new w e s,?_,fun j hj=>?_⟩
 ·rw [bytesOf_length];simp [Lib.bytesCells]
 ·rw [bytesOf_length] at hj
  have h:=Lib.bytesWorld_cell w e s j hj
  simp only [World.cell?,Lib.bytesWorld_at_new] at h
  rw [show (bytesOf s).getD j 0 = ((s.data.toList.getD j 0).toNat:Int) by
   unfold bytesOf
   rw [List.getD_eq_getElem?_getD,List.getD_eq_getElem?_getD,List.getElem?_map]
   have:j < s.data.toList.length:=by rw [data_length];exact hj
   rw [List.getElem?_eq_getElem this];rfl]
  simpa using h
theorem impl_smallLetters.Row.cell {w wr:World} {e:Nat} {xs:List Int} (h:impl_smallLetters.Row w wr e xs) {j:Nat} (hj:j < xs.length):wr.cell? ⟨w.heap.size,j,none⟩ = some (.int .u8 (xs.getD j 0)):=by
 obtain ⟨_,C,hC,hl,hx⟩:=h
 simp only [World.cell?,hC]
 simpa using hx j hj
theorem impl_smallLetters.Row.free {w wr:World} {e:Nat} {xs:List Int} (h:impl_smallLetters.Row w wr e xs) {j:Nat} (hj:j < xs.length):wr.frozen? ⟨w.heap.size,j,none⟩ = false:=by
 obtain ⟨_,C,hC,hl,hx⟩:=h
 simp only [World.frozen?,hC]
 simp;omega
theorem impl_smallLetters.Row.set {w wr:World} {e:Nat} {xs:List Int} (h:impl_smallLetters.Row w wr e xs) (j:Nat) (x:Int):impl_smallLetters.Row w (wr.setCell ⟨w.heap.size,j,none⟩ (.int .u8 x)) e (xs.set j x):=by
 obtain ⟨hb,C,hC,hl,hx⟩:=h
 refine ⟨below_set hb (Nat.le_refl _),C.setIfInBounds j (.int .u8 x),?_,by simpa using hl,fun i hi=>?_⟩
 ·simp [World.setCell,Array.getElem?_modify,hC]
 ·rw [List.length_set] at hi
  by_cases hij:i = j
  ·subst hij
   rw [Array.getElem?_setIfInBounds_self_of_lt (by omega),List.getD_eq_getElem?_getD,List.getElem?_set_self hi];rfl
  ·rw [Array.getElem?_setIfInBounds_ne (Ne.symm hij),hx i hi,List.getD_eq_getElem?_getD,List.getD_eq_getElem?_getD,List.getElem?_set_ne (Ne.symm hij)]
theorem impl_smallLetters.Row.reads {w wr:World} {e:Nat} {xs:List Int} (h:impl_smallLetters.Row w wr e xs) (hm:xs.length ≤ 1000000):ReadsInt wr .u8 (some ⟨w.heap.size,0,none⟩) xs.length xs:=by
 refine ⟨rfl,by omega,fun _=>⟨_,rfl,fun j hj=>?_⟩⟩
 rw [add_plain];exact h.cell hj
theorem impl_smallLetters.byte_bd (s:ByteArray) (k:Nat):0 ≤ (bytesOf s).getD k 0 ∧ (bytesOf s).getD k 0 ≤ 255:=by
 have:=bt_range s k
 rw [← rd_bytesOf] at this
 simpa [rd] using this
theorem impl_smallLetters.calls (a0:ByteArray) (r:ByteArray) (w:World) (h:impl_smallLetters.f a0 = some r) :
  Calls Tryd.prog 66 #[.string a0] w fun e w'=>e = .returned (.string r) ∧ Below w.heap.size w w':=by
 have hs:a0.size ≤ 1000000:=by
  unfold impl_smallLetters.f at h
  split at h
  ·assumption
  ·cases h
 have HR:=Am (show strOfNums ((bytesOf a0).map impl_smallLetters.lo) = r by
  unfold impl_smallLetters.f at h
  rw [if_pos hs] at h
  exact Option.some.inj h)
 clear h
 obtain ⟨W0,cap,hcv,HW⟩:∃ W0 cap,(convert 9 22 (.string a0)).run Tryd.prog w = .ok (.slice (some ⟨w.heap.size,0,none⟩) a0.size cap) W0 ∧ Aside0 (impl_smallLetters.Row w W0 5 (impl_smallLetters.upto (bytesOf a0) 0)):=by
  refine ⟨_,_,Lib.run_convert_string_bytes w 9 22 5 a0 Tryd.underlying9 Tryd.underlying22 Tryd.underlying5,⟨?_⟩⟩
  have:=impl_smallLetters.Row.new w 5 a0
  simpa [impl_smallLetters.upto] using this
 go_enter Tryd.func66,Tryd.ntmps66
 go_wp2
 go_loopw [10] (fun v wr=>∃ k:Nat,k ≤ a0.size ∧ v = .int .i64 k ∧ Aside0 (impl_smallLetters.Row w wr 5 (impl_smallLetters.upto (bytesOf a0) k))) (fun v _=>a0.size - (intOf v).toNat)
 case atStart=>exact ⟨0,Nat.zero_le _,rfl,HW⟩
 case round =>
  clear hcv HW
  obtain ⟨k,hk,rfl,HK⟩:=hrel
  by_cases hlt:k < a0.size
  ·have HL:=Am (bytesOf_length a0)
   have hbd:=impl_smallLetters.byte_bd a0 k
   have hc:=HK.out.cell (j:=k) (by rw [impl_smallLetters.upto_length,HL.out];exact hlt)
   rw [impl_smallLetters.upto_at _ k (by rw [HL.out];exact hlt)] at hc
   have hf:=HK.out.free (j:=k) (by rw [impl_smallLetters.upto_length,HL.out];exact hlt)
   generalize hx:(bytesOf a0).getD k 0 = x at hc hbd
   have HX:=Am hx
   clear hx
   by_cases h1:65 ≤ x
   ·by_cases h2:x ≤ 90
    ·have HN:=Am (HK.out.set k (x + 32))
     go_wp2
     go_roundw
     case rel=>exact ⟨k + 1,by omega,by go_num,⟨by
      rw [impl_smallLetters.upto_succ _ k (by rw [HL.out];exact hlt),HX.out,show impl_smallLetters.lo x = x + 32 by unfold impl_smallLetters.lo;rw [if_pos ⟨h1,h2⟩]]
      exact HN.out⟩⟩
     case measure=>simp [intOf];omega
    ·go_wp2
     go_roundw
     case rel=>exact ⟨k + 1,by omega,by go_num,⟨by
      rw [impl_smallLetters.upto_same _ k (by rw [HL.out];exact hlt) (by rw [HX.out];omega)]
      exact HK.out⟩⟩
     case measure=>simp [intOf];omega
   ·go_wp2
    go_roundw
    case rel=>exact ⟨k + 1,by omega,by go_num,⟨by
     rw [impl_smallLetters.upto_same _ k (by rw [HL.out];exact hlt) (by rw [HX.out];omega)]
     exact HK.out⟩⟩
    case measure=>simp [intOf];omega
  ·obtain rfl:k = a0.size:=by omega
   have HL:=Am (bytesOf_length a0)
   have hcb:(convert 22 9 (.slice (some ⟨w.heap.size,0,none⟩) a0.size cap)).run Tryd.prog wr = .ok (.string r) wr:=by
    have e:impl_smallLetters.upto (bytesOf a0) a0.size = (bytesOf a0).map impl_smallLetters.lo:=by
     rw [← HL.out];exact impl_smallLetters.upto_all _
    have h:=HK.out
    rw [e] at h
    have hl:((bytesOf a0).map impl_smallLetters.lo).length = a0.size:=by rw [List.length_map,HL.out]
    have hr:=h.reads (by omega)
    rw [hl] at hr
    rw [← HR.out]
    exact string_of_reads Tryd.underlying22 Tryd.underlying5 Tryd.underlying9 hr
   have HB:=Am HK.out.1
   go_wp2
   go_ret
   exact ⟨rfl,HB.out⟩

end Go.Proofs.YtbnnamjaljohiaaDoor.P
