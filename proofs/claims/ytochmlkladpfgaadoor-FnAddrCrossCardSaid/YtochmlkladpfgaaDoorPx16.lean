-- Written by a program of this session (patch_print.py over the kit's print; given texts in wip/given).
-- Cut down by a program of this session (wip/tools/prune.py) to what its claim can name.
import Derived.Test.YtochmlkladpfgaaDoorPx0
import Derived.Test.YtochmlkladpfgaaDoorPx1
import Derived.Test.YtochmlkladpfgaaDoorPx14
namespace Go.Proofs.YtochmlkladpfgaaDoor.P
open Go.RowKit Go.Proofs.YtochmlkladpfgaaDoorW.PrintWords Go.Proofs.YtochmlkladpfgaaDoorW.PrintLast Go.Proofs.YtochmlkladpfgaaDoorW.PrintMore
attribute [local go_sem] max2_int min2_int max_two min_two max_three min_three max_four min_four   -- for this text's walks alone
set_option linter.unusedVariables false
set_option linter.unusedSimpArgs false
set_option maxHeartbeats 8000000
set_option maxRecDepth 100000

/-! ### spec_l71Ref: function 33 -/
def spec_l71Ref.j0:Nat → Int → Bool → List Int → Int → Option (ByteArray × Int)
 | 0,_,_,_,_=>none
 | k + 1,x4,x5,x1000,x1001=>if x5 = true then ((spec_l71Addr.f k x1000 x1001).bind fun bt454=>(some (bt454.1,bt454.2))) else (if x4 = 2 then ((spec_l6Rd_of.f k x1000 x1001 (([(⟨#[97]⟩:ByteArray),(⟨#[98]⟩:ByteArray),(⟨#[97,47,98]⟩:ByteArray),(⟨#[99,47,46,46,47,98]⟩:ByteArray),(⟨#[]⟩:ByteArray),(⟨#[120,47,46,47,99]⟩:ByteArray)]:List ByteArray))).bind fun bt459=>(if 1 + bt459.1.size ≤ 9223372036854775807 then (some ((⟨#[47]⟩:ByteArray) ++ bt459.1,bt459.2)) else (none))) else (if x4 = 3 then ((spec_l6Rd_of.f k x1000 x1001 (([(⟨#[46,46]⟩:ByteArray),(⟨#[46,46,47,99]⟩:ByteArray),(⟨#[46,46,47,46,46,47,46,46]⟩:ByteArray),(⟨#[46]⟩:ByteArray),(⟨#[46,47,97]⟩:ByteArray)]:List ByteArray))).bind fun bt464=>(some (bt464.1,bt464.2))) else (if x4 = 4 then ((spec_l6Rd_of.f k x1000 x1001 (([(⟨#[63,97]⟩:ByteArray),(⟨#[63]⟩:ByteArray),(⟨#[35,116,111,112]⟩:ByteArray),(⟨#[]⟩:ByteArray),(⟨#[97,35,98]⟩:ByteArray),(⟨#[98,63,97]⟩:ByteArray)]:List ByteArray))).bind fun bt469=>(some (bt469.1,bt469.2))) else (if x4 = 5 then ((spec_l6Rd_of.f k x1000 x1001 (([(⟨#[47,47,65,66,47,97]⟩:ByteArray),(⟨#[47,47,99,100]⟩:ByteArray),(⟨#[47,47,99,100,63,120]⟩:ByteArray),(⟨#[47,47,97,98,47,37,54,49]⟩:ByteArray),(⟨#[47,47,116,111,111,108,111,110,103,47,97]⟩:ByteArray),(⟨#[47,47,97,49,47,98]⟩:ByteArray),(⟨#[47,47,47,97]⟩:ByteArray)]:List ByteArray))).bind fun bt474=>(some (bt474.1,bt474.2))) else ((spec_l6Rd_of.f k x1000 x1001 (([(⟨#[97]⟩:ByteArray),(⟨#[98]⟩:ByteArray),(⟨#[99]⟩:ByteArray),(⟨#[97,47,98]⟩:ByteArray)]:List ByteArray))).bind fun bt479=>(some (bt479.1,bt479.2)))))))
def spec_l71Ref.f (k:Nat) (s0_0:List Int) (s0_1:Int):Option (ByteArray × Int):=(spec_l6Rd_pick.f k s0_0 s0_1 8).bind fun bt452=>(if bt452.1 = 0 then (spec_l71Ref.j0 k bt452.1 (bt452.1 == 0) s0_0 bt452.2) else (spec_l71Ref.j0 k bt452.1 (bt452.1 == 1) s0_0 bt452.2))
theorem spec_l71Ref.mono_l:∀ k,(∀ y0 y1 y2 y3,LeO (spec_l71Ref.j0 k y0 y1 y2 y3) (spec_l71Ref.j0 (k + 1) y0 y1 y2 y3))
 | 0=>fun _ _ _ _ r h=>by simp [spec_l71Ref.j0] at h
 | k + 1=>by
  have ih0:=spec_l71Ref.mono_l k
  ·intro y0 y1 y2 y3
   unfold spec_l71Ref.j0
   repeat' first
   | (with_reducible exact ih0 _ _ _ _)
   | (with_reducible exact spec_l6Rd_of.mono _ _ _ _)
   | (with_reducible exact spec_l6Rd_pick.mono _ _ _ _)
   | (with_reducible exact spec_l71Addr.mono _ _ _)
   | (with_reducible exact LeO.refl _)
   | (with_reducible exact LeO.none _)
   | (with_reducible refine LeO.ite ?_ ?_)
   | (with_reducible refine LeO.bind ?_ (fun _=>?_))
   | exact ih0 _ _ _ _
   | exact spec_l6Rd_of.mono _ _ _ _
   | exact spec_l6Rd_pick.mono _ _ _ _
   | exact spec_l71Addr.mono _ _ _
   | exact LeO.none _
   | refine LeO.ite ?_ ?_
   | refine LeO.bind ?_ (fun _=>?_)
theorem spec_l71Ref.mono:∀ a0 a1 k,LeO (spec_l71Ref.f k a0 a1) (spec_l71Ref.f (k + 1) a0 a1):=by
 intro a0 a1 k
 have ih0:=spec_l71Ref.mono_l k
 unfold spec_l71Ref.f
 repeat' first
   | (with_reducible exact ih0 _ _ _ _)
   | (with_reducible exact spec_l6Rd_of.mono _ _ _ _)
   | (with_reducible exact spec_l6Rd_pick.mono _ _ _ _)
   | (with_reducible exact spec_l71Addr.mono _ _ _)
   | (with_reducible exact LeO.refl _)
   | (with_reducible exact LeO.none _)
   | (with_reducible refine LeO.ite ?_ ?_)
   | (with_reducible refine LeO.bind ?_ (fun _=>?_))
   | exact ih0 _ _ _ _
   | exact spec_l6Rd_of.mono _ _ _ _
   | exact spec_l6Rd_pick.mono _ _ _ _
   | exact spec_l71Addr.mono _ _ _
   | exact LeO.none _
   | refine LeO.ite ?_ ?_
   | refine LeO.bind ?_ (fun _=>?_)
theorem spec_l71Ref.calls (k:Nat) (g:Nat) (s0_0:List Int) (s0_1:Int) (r1:ByteArray) (r2:Int) (w0 w:World) (hI:IsS55 w0 w g s0_0 s0_1) (hB:Below w0.heap.size w0 w) (h:spec_l71Ref.f k s0_0 s0_1 = some (r1,r2)) :
  Calls Tryd.prog 33 #[.pointer (some ⟨g,0,none⟩)] w fun e w'=>e = .returned (.string r1) ∧ IsS55 w0 w' g s0_0 r2 ∧ Below w0.heap.size w0 w' ∧ KeepBut w w' g none:=by
 have HI0:=Aside0.mk hI
 have HK:=Aside0.mk (KeepBut.refl w g none)
 have HL:=Aside0.mk hB.size
 clear hI
 have HW0:=Aside0.mk hB.size
 have HB:=Aside0.mk hB
 clear hB
 have H:((spec_l6Rd_pick.f k s0_0 s0_1 8).bind fun bt452=>(if bt452.1 = 0 then (spec_l71Ref.j0 k bt452.1 (bt452.1 == 0) s0_0 bt452.2) else (spec_l71Ref.j0 k bt452.1 (bt452.1 == 1) s0_0 bt452.2))) = some (r1,r2):=h
 clear h
 replace H:=Option.bind_eq_some_iff.mp H
 obtain ⟨⟨t452,t453⟩,A20,H⟩:=H
 replace H:(if t452 = 0 then (spec_l71Ref.j0 k t452 (t452 == 0) s0_0 t453) else (spec_l71Ref.j0 k t452 (t452 == 1) s0_0 t453)) = some (r1,r2):=H
 have A2:=Aside0.mk A20
 clear A20
 have HC3:=Aside0.mk H
 clear H
 go_enter Tryd.func33,Tryd.ntmps33
 go_upto_if 5 with (first|((with_reducible refine gate_callee (f:=32) rfl ?_);refine goesL_ (some 4) rfl rfl Tryd.func32 (by kernel_rfl) rfl #[.pointer (some ⟨g,0,none⟩), .int .i64 8] rfl (by (try simp only [List.map_toArray,List.map_cons,List.map_nil]);first|done|rfl|(simp only [List.length_drop,List.length_take];rfl)) ?_;(with_reducible refine (spec_l6Rd_pick.calls k g s0_0 s0_1 8 t452 t453 w0 _ ?side1 ?side2 A2.out).mono ?_);(case side1=>repeat (first|(with_reducible first|exact HI0.out|apply IsS55.alloc|apply IsS55.drewN|apply IsS55.drew|apply IsS55.set_1)|exact HI0.out));(case side2=>repeat (first|(with_reducible first|exact HB.out|apply below_alloc|apply pw_below_drewN|apply below_drew1|refine below_set ?_ (IsS55.ge HI0.out))|exact HB.out));rintro e w4 ⟨rfl,hi,hb,hk⟩;refine ⟨_,rfl,?_⟩;have n0_:=Aside0.mk (KeepBut.trans (by repeat (first|(with_reducible first|exact HK.out|apply KeepBut.set_|apply keep_drewN|apply keep_drew|apply keep_alloc)|exact HK.out)) hk (.inl rfl));have n1_:=Aside0.mk (hb);have n2_:=Aside0.mk (hi);clear HK;clear HB;clear HI0;have HK:=n0_;have HB:=n1_;have HI0:=n2_;clear n0_ n1_ n2_;(try clear hb);(try clear hb2);(try clear hk);(try clear hi)))
 (try simp only [Act.put,List.setIfInBounds_toArray,List.set_cons_zero,List.set_cons_succ])
 go_cut [5] (fun v5 wc=>∃ (kq:Nat) (x5_2:Bool),v5 = .bool x5_2 ∧ Aside0 (spec_l71Ref.j0 kq t452 x5_2 s0_0 t453 = some (r1,r2)) ∧ Aside0 (kq ≤ k) ∧ Aside0 (IsS55 w0 wc g s0_0 t453) ∧ Aside0 (KeepBut w wc g none) ∧ Aside0 (Below w0.heap.size w0 wc))
 case first =>
  have H:=HC3.out
  clear HC3
  by_cases c5:t452 = 0
  ·rw [if_pos c5] at H
   have c5b0:(t452 == 0) = true:=beq_iff_eq.mpr c5
   have c5b1:(t452 != 0) = false:=bne_eq_false_iff_eq.mpr c5
   clear c5
   (first|rw [c5b0]|(simp only [i64_w,i32_w];rw [c5b0])|skip)
   have H':=Aside0.mk H
   clear H
   go_wp2
   go_meet
   case rel=>exact ⟨_,((t452 == 0)),(by first|rfl|(simp;done)|(simp only [i64_w,i32_w];done)|(simp only [i64_w,i32_w];rfl)|(simp [*];done)|(simp [emp_bne,emp_beq];done)),H',⟨by first|omega|exact Nat.le_refl _⟩,⟨by repeat (first|(with_reducible first|exact HI0.out|apply IsS55.alloc|apply IsS55.drewN|apply IsS55.drew|apply IsS55.set_1)|exact HI0.out)⟩,⟨by repeat (first|(with_reducible first|exact HK.out|apply KeepBut.set_|apply keep_drewN|apply keep_drew|apply keep_alloc)|exact HK.out)⟩,⟨by repeat (first|(with_reducible first|exact HB.out|apply below_alloc|apply pw_below_drewN|apply below_drew1|refine below_set ?_ (IsS55.ge HI0.out))|exact HB.out)⟩⟩
  ·rw [if_neg c5] at H
   have c5b0:(t452 == 0) = false:=beq_eq_false_iff_ne.mpr c5
   have c5b1:(t452 != 0) = true:=bne_iff_ne.mpr c5
   (first|rw [c5b0]|(simp only [i64_w,i32_w];rw [c5b0])|skip)
   have H':=Aside0.mk H
   clear H
   go_wp2
   go_meet
   case rel=>exact ⟨_,((t452 == 1)),(by first|rfl|(simp;done)|(simp only [i64_w,i32_w];done)|(simp only [i64_w,i32_w];rfl)|(simp [*];done)|(simp [emp_bne,emp_beq];done)),H',⟨by first|omega|exact Nat.le_refl _⟩,⟨by repeat (first|(with_reducible first|exact HI0.out|apply IsS55.alloc|apply IsS55.drewN|apply IsS55.drew|apply IsS55.set_1)|exact HI0.out)⟩,⟨by repeat (first|(with_reducible first|exact HK.out|apply KeepBut.set_|apply keep_drewN|apply keep_drew|apply keep_alloc)|exact HK.out)⟩,⟨by repeat (first|(with_reducible first|exact HB.out|apply below_alloc|apply pw_below_drewN|apply below_drew1|refine below_set ?_ (IsS55.ge HI0.out))|exact HB.out)⟩⟩
 case rest =>
  clear HC3
  try clear p2
  try clear c3
  try clear c5
  try clear c5b0
  try clear c5b1
  obtain ⟨kq,x5_2,rfl,HA,HJ2,HI0,HK,HB⟩:=hcut
  cases kq with
  | zero=>exact absurd HA.out (by simp [spec_l71Ref.j0])
  | succ kj2 =>
   have H:=HA.out
   clear HA
   simp only [spec_l71Ref.j0] at H
   by_cases c6:x5_2 = true
   ·subst c6
    have H1:((spec_l71Addr.f kj2 s0_0 t453).bind fun bt454=>(some (bt454.1,bt454.2))) = some (r1,r2):=by rw [if_pos rfl] at H;exact H
    clear H
    have H:=H1
    clear H1
    replace H:=Option.bind_eq_some_iff.mp H
    obtain ⟨⟨t454,t455⟩,A70,H⟩:=H
    replace H:(some (t454,t455)) = some (r1,r2):=H
    have A7:=Aside0.mk A70
    clear A70
    simp only [Option.some.injEq,Prod.mk.injEq] at H
    obtain ⟨rfl,rfl⟩:=H
    go_wp2_with (first|((with_reducible refine gate_callee (f:=46) rfl ?_);refine goesL_ (some 9) rfl rfl Tryd.func46 (by kernel_rfl) rfl #[.pointer (some ⟨g,0,none⟩)] rfl (by (try simp only [List.map_toArray,List.map_cons,List.map_nil]);first|done|rfl|(simp only [List.length_drop,List.length_take];rfl)) ?_;(with_reducible refine (spec_l71Addr.calls kj2 g s0_0 t453 t454 t455 w0 _ ?side1 ?side2 A7.out).mono ?_);(case side1=>repeat (first|(with_reducible first|exact HI0.out|apply IsS55.alloc|apply IsS55.drewN|apply IsS55.drew|apply IsS55.set_1)|exact HI0.out));(case side2=>repeat (first|(with_reducible first|exact HB.out|apply below_alloc|apply pw_below_drewN|apply below_drew1|refine below_set ?_ (IsS55.ge HI0.out))|exact HB.out));rintro e w8 ⟨rfl,hi,hb,hk⟩;refine ⟨_,rfl,?_⟩;have n0_:=Aside0.mk (KeepBut.trans (by repeat (first|(with_reducible first|exact HK.out|apply KeepBut.set_|apply keep_drewN|apply keep_drew|apply keep_alloc)|exact HK.out)) hk (.inl rfl));have n1_:=Aside0.mk (hb);have n2_:=Aside0.mk (hi);clear HK;clear HB;clear HI0;have HK:=n0_;have HB:=n1_;have HI0:=n2_;clear n0_ n1_ n2_;(try clear hb);(try clear hb2);(try clear hk);(try clear hi)))
    go_ret
    exact ⟨by first|rfl|(simp <;> rfl)|(simp [*] <;> rfl),by repeat (first|(with_reducible first|exact HI0.out|apply IsS55.alloc|apply IsS55.drewN|apply IsS55.drew|apply IsS55.set_1)|exact HI0.out),by repeat (first|(with_reducible first|exact HB.out|apply below_alloc|apply pw_below_drewN|apply below_drew1|refine below_set ?_ (IsS55.ge HI0.out))|exact HB.out),by repeat (first|(with_reducible first|exact HK.out|apply KeepBut.set_|apply keep_drewN|apply keep_drew|apply keep_alloc)|exact HK.out)⟩
   ·replace c6:=Bool.eq_false_iff.mpr c6
    subst c6
    have H1:(if t452 = 2 then ((spec_l6Rd_of.f kj2 s0_0 t453 (([(⟨#[97]⟩:ByteArray),(⟨#[98]⟩:ByteArray),(⟨#[97,47,98]⟩:ByteArray),(⟨#[99,47,46,46,47,98]⟩:ByteArray),(⟨#[]⟩:ByteArray),(⟨#[120,47,46,47,99]⟩:ByteArray)]:List ByteArray))).bind fun bt459=>(if 1 + bt459.1.size ≤ 9223372036854775807 then (some ((⟨#[47]⟩:ByteArray) ++ bt459.1,bt459.2)) else (none))) else (if t452 = 3 then ((spec_l6Rd_of.f kj2 s0_0 t453 (([(⟨#[46,46]⟩:ByteArray),(⟨#[46,46,47,99]⟩:ByteArray),(⟨#[46,46,47,46,46,47,46,46]⟩:ByteArray),(⟨#[46]⟩:ByteArray),(⟨#[46,47,97]⟩:ByteArray)]:List ByteArray))).bind fun bt464=>(some (bt464.1,bt464.2))) else (if t452 = 4 then ((spec_l6Rd_of.f kj2 s0_0 t453 (([(⟨#[63,97]⟩:ByteArray),(⟨#[63]⟩:ByteArray),(⟨#[35,116,111,112]⟩:ByteArray),(⟨#[]⟩:ByteArray),(⟨#[97,35,98]⟩:ByteArray),(⟨#[98,63,97]⟩:ByteArray)]:List ByteArray))).bind fun bt469=>(some (bt469.1,bt469.2))) else (if t452 = 5 then ((spec_l6Rd_of.f kj2 s0_0 t453 (([(⟨#[47,47,65,66,47,97]⟩:ByteArray),(⟨#[47,47,99,100]⟩:ByteArray),(⟨#[47,47,99,100,63,120]⟩:ByteArray),(⟨#[47,47,97,98,47,37,54,49]⟩:ByteArray),(⟨#[47,47,116,111,111,108,111,110,103,47,97]⟩:ByteArray),(⟨#[47,47,97,49,47,98]⟩:ByteArray),(⟨#[47,47,47,97]⟩:ByteArray)]:List ByteArray))).bind fun bt474=>(some (bt474.1,bt474.2))) else ((spec_l6Rd_of.f kj2 s0_0 t453 (([(⟨#[97]⟩:ByteArray),(⟨#[98]⟩:ByteArray),(⟨#[99]⟩:ByteArray),(⟨#[97,47,98]⟩:ByteArray)]:List ByteArray))).bind fun bt479=>(some (bt479.1,bt479.2))))))) = some (r1,r2):=by rw [if_neg (show ¬ (false = true) by decide)] at H;exact H
    clear H
    have H:=H1
    clear H1
    by_cases c9:t452 = 2
    ·rw [if_pos c9] at H
     have c9b0:(t452 == 2) = true:=beq_iff_eq.mpr c9
     have c9b1:(t452 != 2) = false:=bne_eq_false_iff_eq.mpr c9
     clear c9
     obtain ⟨y456,hy456⟩:∃ y_:List ByteArray,y_ = (([(⟨#[97]⟩:ByteArray),(⟨#[98]⟩:ByteArray),(⟨#[97,47,98]⟩:ByteArray),(⟨#[99,47,46,46,47,98]⟩:ByteArray),(⟨#[]⟩:ByteArray),(⟨#[120,47,46,47,99]⟩:ByteArray)]:List ByteArray)):=⟨_,rfl⟩
     replace H:((spec_l6Rd_of.f kj2 s0_0 t453 y456).bind fun bt459=>(if 1 + bt459.1.size ≤ 9223372036854775807 then (some ((⟨#[47]⟩:ByteArray) ++ bt459.1,bt459.2)) else (none))) = some (r1,r2):=by first|(rw [hy456];with_reducible exact H)|(have H2_:=(Option.bind_some _ _).symm.trans H;rw [hy456];with_reducible exact H2_)|(have H2_:=(Option.bind_some _ _).symm.trans H;with_reducible exact H2_)|with_reducible exact H|(rw [hy456];exact H)|exact H
     have Ny456:=Aside0.mk hy456
     clear hy456
     replace H:=Option.bind_eq_some_iff.mp H
     obtain ⟨⟨t459,t460⟩,A100,H⟩:=H
     replace H:(if 1 + t459.size ≤ 9223372036854775807 then (some ((⟨#[47]⟩:ByteArray) ++ t459,t460)) else (none)) = some (r1,r2):=H
     have A10:=Aside0.mk A100
     clear A100
     by_cases c11:1 + t459.size ≤ 9223372036854775807
     ·rw [if_pos c11] at H
      have c11b0:=eq_true c11
      have c11b1:=decide_eq_true c11
      try have c11b2:(9223372036854775807 < 1 + t459.size) = False:=eq_false (Nat.not_lt.2 c11)
      simp only [Option.some.injEq,Prod.mk.injEq] at H
      obtain ⟨rfl,rfl⟩:=H
      go_wp2_with (first|((with_reducible refine gate_dst (N:=13) rfl ?_);refine Kd.R_lit Kd.string _ 9 ?hg (N:=13) ?hd (xs:=([(⟨#[97]⟩:ByteArray),(⟨#[98]⟩:ByteArray),(⟨#[97,47,98]⟩:ByteArray),(⟨#[99,47,46,46,47,98]⟩:ByteArray),(⟨#[]⟩:ByteArray),(⟨#[120,47,46,47,99]⟩:ByteArray)]:List ByteArray)) (inner:=[.string (⟨#[97]⟩:ByteArray), .string (⟨#[98]⟩:ByteArray), .string (⟨#[97,47,98]⟩:ByteArray), .string (⟨#[99,47,46,46,47,98]⟩:ByteArray), .string (⟨#[]⟩:ByteArray), .string (⟨#[120,47,46,47,99]⟩:ByteArray)]) (ok:=fun _=>True) (okp:=fun _=>True) ?hr ?hp (fun _ hk=>hk) trivial (Below.refl _ _) (Nat.le_refl _) (by simp) ?_;(case hd=>rfl);(case hg=>rfl);(case hr=>first|(go_simp;done)|(go_simp;rfl));(case hp=>exact (Reps.one (show Kd.M Kd.string _ _ _ (⟨#[97]⟩:ByteArray) [.string (⟨#[97]⟩:ByteArray)] from rfl) (Reps.one (show Kd.M Kd.string _ _ _ (⟨#[98]⟩:ByteArray) [.string (⟨#[98]⟩:ByteArray)] from rfl) (Reps.one (show Kd.M Kd.string _ _ _ (⟨#[97,47,98]⟩:ByteArray) [.string (⟨#[97,47,98]⟩:ByteArray)] from rfl) (Reps.one (show Kd.M Kd.string _ _ _ (⟨#[99,47,46,46,47,98]⟩:ByteArray) [.string (⟨#[99,47,46,46,47,98]⟩:ByteArray)] from rfl) (Reps.one (show Kd.M Kd.string _ _ _ (⟨#[]⟩:ByteArray) [.string (⟨#[]⟩:ByteArray)] from rfl) (Reps.one (show Kd.M Kd.string _ _ _ (⟨#[120,47,46,47,99]⟩:ByteArray) [.string (⟨#[120,47,46,47,99]⟩:ByteArray)] from rfl) (Reps.none _ _))))))));intro v457 w12 ho13 hb hg_ hnew_;clear hg_ hnew_;(first|rw [← Ny456.out] at ho13|(simp only [Int.reduceToNat] at ho13;rw [← Ny456.out] at ho13));have n0_:=Aside0.mk (Kd.R_lower ho13 (keep_size (w:=w) (g:=g) (row:=none) (by repeat (first|(with_reducible first|exact HK.out|apply KeepBut.set_|apply keep_drewN|apply keep_drew|apply keep_alloc)|exact HK.out))));have n1_:=Aside0.mk (IsS55.below (by repeat (first|(with_reducible first|exact HI0.out|apply IsS55.alloc|apply IsS55.drewN|apply IsS55.drew|apply IsS55.set_1)|exact HI0.out)) hb);have n2_:=Aside0.mk (KeepBut.trans (by repeat (first|(with_reducible first|exact HK.out|apply KeepBut.set_|apply keep_drewN|apply keep_drew|apply keep_alloc)|exact HK.out)) (KeepBut.of_below hb g none) (.inl rfl));have n3_:=Aside0.mk (below_step (by repeat (first|(with_reducible first|exact HB.out|apply below_alloc|apply pw_below_drewN|apply below_drew1|refine below_set ?_ (IsS55.ge HI0.out))|exact HB.out)) hb);clear HI0;clear HK;clear HB;have HO458:=n0_;have HI0:=n1_;have HK:=n2_;have HB:=n3_;clear n0_ n1_ n2_ n3_;clear hb ho13;obtain ⟨Ao14,co14,eo14⟩:=Kd.R_slice HO458.out;subst eo14)|((with_reducible refine gate_callee (f:=34) rfl ?_);refine goesL_ (some 14) rfl rfl Tryd.func34 (by kernel_rfl) rfl #[.pointer (some ⟨g,0,none⟩), .slice Ao14 y456.length co14] rfl (by (try simp only [List.map_toArray,List.map_cons,List.map_nil]);first|done|rfl|(simp only [List.length_drop,List.length_take];rfl)) ?_;(with_reducible refine (spec_l6Rd_of.calls kj2 g s0_0 t453 _ _ y456 t459 t460 w0 _ ?side1 ?side2 ?side3 ?side4 ?side5 A10.out).mono ?_);(case side1=>repeat (first|(with_reducible first|exact HI0.out|apply IsS55.alloc|apply IsS55.drewN|apply IsS55.drew|apply IsS55.set_1)|exact HI0.out));(case side2=>repeat (first|(with_reducible first|exact HB.out|apply below_alloc|apply pw_below_drewN|apply below_drew1|refine below_set ?_ (IsS55.ge HI0.out))|exact HB.out));(case side3=>repeat (first|exact (Kd.R_reads' HO458.out).2.2|(with_reducible refine Kd.C_alloc ?_ _)|(with_reducible refine Kd.C_drewN ?_ _)|(with_reducible refine Kd.C_drew ?_)));(case side4=>exact (Kd.R_reads' HO458.out).2.1);(case side5=>exact far_slice (IsS55.own_ne HI0.out HO458.out (by decide)));rintro e w15 ⟨rfl,hi,hb,hk⟩;refine ⟨_,rfl,?_⟩;have n0_:=Aside0.mk (Kd.R_mono (Kd.R_keep (IsS55.apart (show IsS55 w0 _ g s0_0 t453 from by repeat (first|(with_reducible first|exact HI0.out|apply IsS55.alloc|apply IsS55.drewN|apply IsS55.drew|apply IsS55.set_1)|exact HI0.out)) (by (with_reducible repeat (first|apply Kd.R_alloc|apply Kd.R_drewN|apply Kd.R_drew));exact HO458.out) (by decide)) hk (fun _ h=>h.2)) (fun _ h=>h.1));have n1_:=Aside0.mk (KeepBut.trans (by repeat (first|(with_reducible first|exact HK.out|apply KeepBut.set_|apply keep_drewN|apply keep_drew|apply keep_alloc)|exact HK.out)) hk (.inl rfl));have n2_:=Aside0.mk (hb);have n3_:=Aside0.mk (hi);clear HO458;clear HK;clear HB;clear HI0;have HO458:=n0_;have HK:=n1_;have HB:=n2_;have HI0:=n3_;clear n0_ n1_ n2_ n3_;(try clear hb);(try clear hb2);(try clear hk);(try clear hi)))
      go_ret
      exact ⟨by first|rfl|(simp <;> rfl)|(simp [*] <;> rfl),by repeat (first|(with_reducible first|exact HI0.out|apply IsS55.alloc|apply IsS55.drewN|apply IsS55.drew|apply IsS55.set_1)|exact HI0.out),by repeat (first|(with_reducible first|exact HB.out|apply below_alloc|apply pw_below_drewN|apply below_drew1|refine below_set ?_ (IsS55.ge HI0.out))|exact HB.out),by repeat (first|(with_reducible first|exact HK.out|apply KeepBut.set_|apply keep_drewN|apply keep_drew|apply keep_alloc)|exact HK.out)⟩
     ·rw [if_neg c11] at H
      exact absurd H (by simp)
    ·rw [if_neg c9] at H
     have c9b0:(t452 == 2) = false:=beq_eq_false_iff_ne.mpr c9
     have c9b1:(t452 != 2) = true:=bne_iff_ne.mpr c9
     by_cases c16:t452 = 3
     ·rw [if_pos c16] at H
      have c16b0:(t452 == 3) = true:=beq_iff_eq.mpr c16
      have c16b1:(t452 != 3) = false:=bne_eq_false_iff_eq.mpr c16
      clear c16
      obtain ⟨y461,hy461⟩:∃ y_:List ByteArray,y_ = (([(⟨#[46,46]⟩:ByteArray),(⟨#[46,46,47,99]⟩:ByteArray),(⟨#[46,46,47,46,46,47,46,46]⟩:ByteArray),(⟨#[46]⟩:ByteArray),(⟨#[46,47,97]⟩:ByteArray)]:List ByteArray)):=⟨_,rfl⟩
      replace H:((spec_l6Rd_of.f kj2 s0_0 t453 y461).bind fun bt464=>(some (bt464.1,bt464.2))) = some (r1,r2):=by first|(rw [hy461];with_reducible exact H)|(have H2_:=(Option.bind_some _ _).symm.trans H;rw [hy461];with_reducible exact H2_)|(have H2_:=(Option.bind_some _ _).symm.trans H;with_reducible exact H2_)|with_reducible exact H|(rw [hy461];exact H)|exact H
      have Ny461:=Aside0.mk hy461
      clear hy461
      replace H:=Option.bind_eq_some_iff.mp H
      obtain ⟨⟨t464,t465⟩,A170,H⟩:=H
      replace H:(some (t464,t465)) = some (r1,r2):=H
      have A17:=Aside0.mk A170
      clear A170
      simp only [Option.some.injEq,Prod.mk.injEq] at H
      obtain ⟨rfl,rfl⟩:=H
      go_wp2_with (first|((with_reducible refine gate_dst (N:=19) rfl ?_);refine Kd.R_lit Kd.string _ 9 ?hg (N:=19) ?hd (xs:=([(⟨#[46,46]⟩:ByteArray),(⟨#[46,46,47,99]⟩:ByteArray),(⟨#[46,46,47,46,46,47,46,46]⟩:ByteArray),(⟨#[46]⟩:ByteArray),(⟨#[46,47,97]⟩:ByteArray)]:List ByteArray)) (inner:=[.string (⟨#[46,46]⟩:ByteArray), .string (⟨#[46,46,47,99]⟩:ByteArray), .string (⟨#[46,46,47,46,46,47,46,46]⟩:ByteArray), .string (⟨#[46]⟩:ByteArray), .string (⟨#[46,47,97]⟩:ByteArray)]) (ok:=fun _=>True) (okp:=fun _=>True) ?hr ?hp (fun _ hk=>hk) trivial (Below.refl _ _) (Nat.le_refl _) (by simp) ?_;(case hd=>rfl);(case hg=>rfl);(case hr=>first|(go_simp;done)|(go_simp;rfl));(case hp=>exact (Reps.one (show Kd.M Kd.string _ _ _ (⟨#[46,46]⟩:ByteArray) [.string (⟨#[46,46]⟩:ByteArray)] from rfl) (Reps.one (show Kd.M Kd.string _ _ _ (⟨#[46,46,47,99]⟩:ByteArray) [.string (⟨#[46,46,47,99]⟩:ByteArray)] from rfl) (Reps.one (show Kd.M Kd.string _ _ _ (⟨#[46,46,47,46,46,47,46,46]⟩:ByteArray) [.string (⟨#[46,46,47,46,46,47,46,46]⟩:ByteArray)] from rfl) (Reps.one (show Kd.M Kd.string _ _ _ (⟨#[46]⟩:ByteArray) [.string (⟨#[46]⟩:ByteArray)] from rfl) (Reps.one (show Kd.M Kd.string _ _ _ (⟨#[46,47,97]⟩:ByteArray) [.string (⟨#[46,47,97]⟩:ByteArray)] from rfl) (Reps.none _ _)))))));intro v462 w18 ho19 hb hg_ hnew_;clear hg_ hnew_;(first|rw [← Ny461.out] at ho19|(simp only [Int.reduceToNat] at ho19;rw [← Ny461.out] at ho19));have n0_:=Aside0.mk (Kd.R_lower ho19 (keep_size (w:=w) (g:=g) (row:=none) (by repeat (first|(with_reducible first|exact HK.out|apply KeepBut.set_|apply keep_drewN|apply keep_drew|apply keep_alloc)|exact HK.out))));have n1_:=Aside0.mk (IsS55.below (by repeat (first|(with_reducible first|exact HI0.out|apply IsS55.alloc|apply IsS55.drewN|apply IsS55.drew|apply IsS55.set_1)|exact HI0.out)) hb);have n2_:=Aside0.mk (KeepBut.trans (by repeat (first|(with_reducible first|exact HK.out|apply KeepBut.set_|apply keep_drewN|apply keep_drew|apply keep_alloc)|exact HK.out)) (KeepBut.of_below hb g none) (.inl rfl));have n3_:=Aside0.mk (below_step (by repeat (first|(with_reducible first|exact HB.out|apply below_alloc|apply pw_below_drewN|apply below_drew1|refine below_set ?_ (IsS55.ge HI0.out))|exact HB.out)) hb);clear HI0;clear HK;clear HB;have HO463:=n0_;have HI0:=n1_;have HK:=n2_;have HB:=n3_;clear n0_ n1_ n2_ n3_;clear hb ho19;obtain ⟨Ao20,co20,eo20⟩:=Kd.R_slice HO463.out;subst eo20)|((with_reducible refine gate_callee (f:=34) rfl ?_);refine goesL_ (some 20) rfl rfl Tryd.func34 (by kernel_rfl) rfl #[.pointer (some ⟨g,0,none⟩), .slice Ao20 y461.length co20] rfl (by (try simp only [List.map_toArray,List.map_cons,List.map_nil]);first|done|rfl|(simp only [List.length_drop,List.length_take];rfl)) ?_;(with_reducible refine (spec_l6Rd_of.calls kj2 g s0_0 t453 _ _ y461 t464 t465 w0 _ ?side1 ?side2 ?side3 ?side4 ?side5 A17.out).mono ?_);(case side1=>repeat (first|(with_reducible first|exact HI0.out|apply IsS55.alloc|apply IsS55.drewN|apply IsS55.drew|apply IsS55.set_1)|exact HI0.out));(case side2=>repeat (first|(with_reducible first|exact HB.out|apply below_alloc|apply pw_below_drewN|apply below_drew1|refine below_set ?_ (IsS55.ge HI0.out))|exact HB.out));(case side3=>repeat (first|exact (Kd.R_reads' HO463.out).2.2|(with_reducible refine Kd.C_alloc ?_ _)|(with_reducible refine Kd.C_drewN ?_ _)|(with_reducible refine Kd.C_drew ?_)));(case side4=>exact (Kd.R_reads' HO463.out).2.1);(case side5=>exact far_slice (IsS55.own_ne HI0.out HO463.out (by decide)));rintro e w21 ⟨rfl,hi,hb,hk⟩;refine ⟨_,rfl,?_⟩;have n0_:=Aside0.mk (Kd.R_mono (Kd.R_keep (IsS55.apart (show IsS55 w0 _ g s0_0 t453 from by repeat (first|(with_reducible first|exact HI0.out|apply IsS55.alloc|apply IsS55.drewN|apply IsS55.drew|apply IsS55.set_1)|exact HI0.out)) (by (with_reducible repeat (first|apply Kd.R_alloc|apply Kd.R_drewN|apply Kd.R_drew));exact HO463.out) (by decide)) hk (fun _ h=>h.2)) (fun _ h=>h.1));have n1_:=Aside0.mk (KeepBut.trans (by repeat (first|(with_reducible first|exact HK.out|apply KeepBut.set_|apply keep_drewN|apply keep_drew|apply keep_alloc)|exact HK.out)) hk (.inl rfl));have n2_:=Aside0.mk (hb);have n3_:=Aside0.mk (hi);clear HO463;clear HK;clear HB;clear HI0;have HO463:=n0_;have HK:=n1_;have HB:=n2_;have HI0:=n3_;clear n0_ n1_ n2_ n3_;(try clear hb);(try clear hb2);(try clear hk);(try clear hi)))
      go_ret
      exact ⟨by first|rfl|(simp <;> rfl)|(simp [*] <;> rfl),by repeat (first|(with_reducible first|exact HI0.out|apply IsS55.alloc|apply IsS55.drewN|apply IsS55.drew|apply IsS55.set_1)|exact HI0.out),by repeat (first|(with_reducible first|exact HB.out|apply below_alloc|apply pw_below_drewN|apply below_drew1|refine below_set ?_ (IsS55.ge HI0.out))|exact HB.out),by repeat (first|(with_reducible first|exact HK.out|apply KeepBut.set_|apply keep_drewN|apply keep_drew|apply keep_alloc)|exact HK.out)⟩
     ·rw [if_neg c16] at H
      have c16b0:(t452 == 3) = false:=beq_eq_false_iff_ne.mpr c16
      have c16b1:(t452 != 3) = true:=bne_iff_ne.mpr c16
      by_cases c22:t452 = 4
      ·rw [if_pos c22] at H
       have c22b0:(t452 == 4) = true:=beq_iff_eq.mpr c22
       have c22b1:(t452 != 4) = false:=bne_eq_false_iff_eq.mpr c22
       clear c22
       obtain ⟨y466,hy466⟩:∃ y_:List ByteArray,y_ = (([(⟨#[63,97]⟩:ByteArray),(⟨#[63]⟩:ByteArray),(⟨#[35,116,111,112]⟩:ByteArray),(⟨#[]⟩:ByteArray),(⟨#[97,35,98]⟩:ByteArray),(⟨#[98,63,97]⟩:ByteArray)]:List ByteArray)):=⟨_,rfl⟩
       replace H:((spec_l6Rd_of.f kj2 s0_0 t453 y466).bind fun bt469=>(some (bt469.1,bt469.2))) = some (r1,r2):=by first|(rw [hy466];with_reducible exact H)|(have H2_:=(Option.bind_some _ _).symm.trans H;rw [hy466];with_reducible exact H2_)|(have H2_:=(Option.bind_some _ _).symm.trans H;with_reducible exact H2_)|with_reducible exact H|(rw [hy466];exact H)|exact H
       have Ny466:=Aside0.mk hy466
       clear hy466
       replace H:=Option.bind_eq_some_iff.mp H
       obtain ⟨⟨t469,t470⟩,A230,H⟩:=H
       replace H:(some (t469,t470)) = some (r1,r2):=H
       have A23:=Aside0.mk A230
       clear A230
       simp only [Option.some.injEq,Prod.mk.injEq] at H
       obtain ⟨rfl,rfl⟩:=H
       go_wp2_with (first|((with_reducible refine gate_dst (N:=24) rfl ?_);refine Kd.R_lit Kd.string _ 9 ?hg (N:=24) ?hd (xs:=([(⟨#[63,97]⟩:ByteArray),(⟨#[63]⟩:ByteArray),(⟨#[35,116,111,112]⟩:ByteArray),(⟨#[]⟩:ByteArray),(⟨#[97,35,98]⟩:ByteArray),(⟨#[98,63,97]⟩:ByteArray)]:List ByteArray)) (inner:=[.string (⟨#[63,97]⟩:ByteArray), .string (⟨#[63]⟩:ByteArray), .string (⟨#[35,116,111,112]⟩:ByteArray), .string (⟨#[]⟩:ByteArray), .string (⟨#[97,35,98]⟩:ByteArray), .string (⟨#[98,63,97]⟩:ByteArray)]) (ok:=fun _=>True) (okp:=fun _=>True) ?hr ?hp (fun _ hk=>hk) trivial (Below.refl _ _) (Nat.le_refl _) (by simp) ?_;(case hd=>rfl);(case hg=>rfl);(case hr=>first|(go_simp;done)|(go_simp;rfl));(case hp=>exact (Reps.one (show Kd.M Kd.string _ _ _ (⟨#[63,97]⟩:ByteArray) [.string (⟨#[63,97]⟩:ByteArray)] from rfl) (Reps.one (show Kd.M Kd.string _ _ _ (⟨#[63]⟩:ByteArray) [.string (⟨#[63]⟩:ByteArray)] from rfl) (Reps.one (show Kd.M Kd.string _ _ _ (⟨#[35,116,111,112]⟩:ByteArray) [.string (⟨#[35,116,111,112]⟩:ByteArray)] from rfl) (Reps.one (show Kd.M Kd.string _ _ _ (⟨#[]⟩:ByteArray) [.string (⟨#[]⟩:ByteArray)] from rfl) (Reps.one (show Kd.M Kd.string _ _ _ (⟨#[97,35,98]⟩:ByteArray) [.string (⟨#[97,35,98]⟩:ByteArray)] from rfl) (Reps.one (show Kd.M Kd.string _ _ _ (⟨#[98,63,97]⟩:ByteArray) [.string (⟨#[98,63,97]⟩:ByteArray)] from rfl) (Reps.none _ _))))))));intro v467 w24 ho25 hb hg_ hnew_;clear hg_ hnew_;(first|rw [← Ny466.out] at ho25|(simp only [Int.reduceToNat] at ho25;rw [← Ny466.out] at ho25));have n0_:=Aside0.mk (Kd.R_lower ho25 (keep_size (w:=w) (g:=g) (row:=none) (by repeat (first|(with_reducible first|exact HK.out|apply KeepBut.set_|apply keep_drewN|apply keep_drew|apply keep_alloc)|exact HK.out))));have n1_:=Aside0.mk (IsS55.below (by repeat (first|(with_reducible first|exact HI0.out|apply IsS55.alloc|apply IsS55.drewN|apply IsS55.drew|apply IsS55.set_1)|exact HI0.out)) hb);have n2_:=Aside0.mk (KeepBut.trans (by repeat (first|(with_reducible first|exact HK.out|apply KeepBut.set_|apply keep_drewN|apply keep_drew|apply keep_alloc)|exact HK.out)) (KeepBut.of_below hb g none) (.inl rfl));have n3_:=Aside0.mk (below_step (by repeat (first|(with_reducible first|exact HB.out|apply below_alloc|apply pw_below_drewN|apply below_drew1|refine below_set ?_ (IsS55.ge HI0.out))|exact HB.out)) hb);clear HI0;clear HK;clear HB;have HO468:=n0_;have HI0:=n1_;have HK:=n2_;have HB:=n3_;clear n0_ n1_ n2_ n3_;clear hb ho25;obtain ⟨Ao26,co26,eo26⟩:=Kd.R_slice HO468.out;subst eo26)|((with_reducible refine gate_callee (f:=34) rfl ?_);refine goesL_ (some 25) rfl rfl Tryd.func34 (by kernel_rfl) rfl #[.pointer (some ⟨g,0,none⟩), .slice Ao26 y466.length co26] rfl (by (try simp only [List.map_toArray,List.map_cons,List.map_nil]);first|done|rfl|(simp only [List.length_drop,List.length_take];rfl)) ?_;(with_reducible refine (spec_l6Rd_of.calls kj2 g s0_0 t453 _ _ y466 t469 t470 w0 _ ?side1 ?side2 ?side3 ?side4 ?side5 A23.out).mono ?_);(case side1=>repeat (first|(with_reducible first|exact HI0.out|apply IsS55.alloc|apply IsS55.drewN|apply IsS55.drew|apply IsS55.set_1)|exact HI0.out));(case side2=>repeat (first|(with_reducible first|exact HB.out|apply below_alloc|apply pw_below_drewN|apply below_drew1|refine below_set ?_ (IsS55.ge HI0.out))|exact HB.out));(case side3=>repeat (first|exact (Kd.R_reads' HO468.out).2.2|(with_reducible refine Kd.C_alloc ?_ _)|(with_reducible refine Kd.C_drewN ?_ _)|(with_reducible refine Kd.C_drew ?_)));(case side4=>exact (Kd.R_reads' HO468.out).2.1);(case side5=>exact far_slice (IsS55.own_ne HI0.out HO468.out (by decide)));rintro e w27 ⟨rfl,hi,hb,hk⟩;refine ⟨_,rfl,?_⟩;have n0_:=Aside0.mk (Kd.R_mono (Kd.R_keep (IsS55.apart (show IsS55 w0 _ g s0_0 t453 from by repeat (first|(with_reducible first|exact HI0.out|apply IsS55.alloc|apply IsS55.drewN|apply IsS55.drew|apply IsS55.set_1)|exact HI0.out)) (by (with_reducible repeat (first|apply Kd.R_alloc|apply Kd.R_drewN|apply Kd.R_drew));exact HO468.out) (by decide)) hk (fun _ h=>h.2)) (fun _ h=>h.1));have n1_:=Aside0.mk (KeepBut.trans (by repeat (first|(with_reducible first|exact HK.out|apply KeepBut.set_|apply keep_drewN|apply keep_drew|apply keep_alloc)|exact HK.out)) hk (.inl rfl));have n2_:=Aside0.mk (hb);have n3_:=Aside0.mk (hi);clear HO468;clear HK;clear HB;clear HI0;have HO468:=n0_;have HK:=n1_;have HB:=n2_;have HI0:=n3_;clear n0_ n1_ n2_ n3_;(try clear hb);(try clear hb2);(try clear hk);(try clear hi)))
       go_ret
       exact ⟨by first|rfl|(simp <;> rfl)|(simp [*] <;> rfl),by repeat (first|(with_reducible first|exact HI0.out|apply IsS55.alloc|apply IsS55.drewN|apply IsS55.drew|apply IsS55.set_1)|exact HI0.out),by repeat (first|(with_reducible first|exact HB.out|apply below_alloc|apply pw_below_drewN|apply below_drew1|refine below_set ?_ (IsS55.ge HI0.out))|exact HB.out),by repeat (first|(with_reducible first|exact HK.out|apply KeepBut.set_|apply keep_drewN|apply keep_drew|apply keep_alloc)|exact HK.out)⟩
      ·rw [if_neg c22] at H
       have c22b0:(t452 == 4) = false:=beq_eq_false_iff_ne.mpr c22
       have c22b1:(t452 != 4) = true:=bne_iff_ne.mpr c22
       by_cases c28:t452 = 5
       ·rw [if_pos c28] at H
        have c28b0:(t452 == 5) = true:=beq_iff_eq.mpr c28
        have c28b1:(t452 != 5) = false:=bne_eq_false_iff_eq.mpr c28
        clear c28
        obtain ⟨y471,hy471⟩:∃ y_:List ByteArray,y_ = (([(⟨#[47,47,65,66,47,97]⟩:ByteArray),(⟨#[47,47,99,100]⟩:ByteArray),(⟨#[47,47,99,100,63,120]⟩:ByteArray),(⟨#[47,47,97,98,47,37,54,49]⟩:ByteArray),(⟨#[47,47,116,111,111,108,111,110,103,47,97]⟩:ByteArray),(⟨#[47,47,97,49,47,98]⟩:ByteArray),(⟨#[47,47,47,97]⟩:ByteArray)]:List ByteArray)):=⟨_,rfl⟩
        replace H:((spec_l6Rd_of.f kj2 s0_0 t453 y471).bind fun bt474=>(some (bt474.1,bt474.2))) = some (r1,r2):=by first|(rw [hy471];with_reducible exact H)|(have H2_:=(Option.bind_some _ _).symm.trans H;rw [hy471];with_reducible exact H2_)|(have H2_:=(Option.bind_some _ _).symm.trans H;with_reducible exact H2_)|with_reducible exact H|(rw [hy471];exact H)|exact H
        have Ny471:=Aside0.mk hy471
        clear hy471
        replace H:=Option.bind_eq_some_iff.mp H
        obtain ⟨⟨t474,t475⟩,A290,H⟩:=H
        replace H:(some (t474,t475)) = some (r1,r2):=H
        have A29:=Aside0.mk A290
        clear A290
        simp only [Option.some.injEq,Prod.mk.injEq] at H
        obtain ⟨rfl,rfl⟩:=H
        go_wp2_with (first|((with_reducible refine gate_dst (N:=29) rfl ?_);refine Kd.R_lit Kd.string _ 9 ?hg (N:=29) ?hd (xs:=([(⟨#[47,47,65,66,47,97]⟩:ByteArray),(⟨#[47,47,99,100]⟩:ByteArray),(⟨#[47,47,99,100,63,120]⟩:ByteArray),(⟨#[47,47,97,98,47,37,54,49]⟩:ByteArray),(⟨#[47,47,116,111,111,108,111,110,103,47,97]⟩:ByteArray),(⟨#[47,47,97,49,47,98]⟩:ByteArray),(⟨#[47,47,47,97]⟩:ByteArray)]:List ByteArray)) (inner:=[.string (⟨#[47,47,65,66,47,97]⟩:ByteArray), .string (⟨#[47,47,99,100]⟩:ByteArray), .string (⟨#[47,47,99,100,63,120]⟩:ByteArray), .string (⟨#[47,47,97,98,47,37,54,49]⟩:ByteArray), .string (⟨#[47,47,116,111,111,108,111,110,103,47,97]⟩:ByteArray), .string (⟨#[47,47,97,49,47,98]⟩:ByteArray), .string (⟨#[47,47,47,97]⟩:ByteArray)]) (ok:=fun _=>True) (okp:=fun _=>True) ?hr ?hp (fun _ hk=>hk) trivial (Below.refl _ _) (Nat.le_refl _) (by simp) ?_;(case hd=>rfl);(case hg=>rfl);(case hr=>first|(go_simp;done)|(go_simp;rfl));(case hp=>exact (Reps.one (show Kd.M Kd.string _ _ _ (⟨#[47,47,65,66,47,97]⟩:ByteArray) [.string (⟨#[47,47,65,66,47,97]⟩:ByteArray)] from rfl) (Reps.one (show Kd.M Kd.string _ _ _ (⟨#[47,47,99,100]⟩:ByteArray) [.string (⟨#[47,47,99,100]⟩:ByteArray)] from rfl) (Reps.one (show Kd.M Kd.string _ _ _ (⟨#[47,47,99,100,63,120]⟩:ByteArray) [.string (⟨#[47,47,99,100,63,120]⟩:ByteArray)] from rfl) (Reps.one (show Kd.M Kd.string _ _ _ (⟨#[47,47,97,98,47,37,54,49]⟩:ByteArray) [.string (⟨#[47,47,97,98,47,37,54,49]⟩:ByteArray)] from rfl) (Reps.one (show Kd.M Kd.string _ _ _ (⟨#[47,47,116,111,111,108,111,110,103,47,97]⟩:ByteArray) [.string (⟨#[47,47,116,111,111,108,111,110,103,47,97]⟩:ByteArray)] from rfl) (Reps.one (show Kd.M Kd.string _ _ _ (⟨#[47,47,97,49,47,98]⟩:ByteArray) [.string (⟨#[47,47,97,49,47,98]⟩:ByteArray)] from rfl) (Reps.one (show Kd.M Kd.string _ _ _ (⟨#[47,47,47,97]⟩:ByteArray) [.string (⟨#[47,47,47,97]⟩:ByteArray)] from rfl) (Reps.none _ _)))))))));intro v472 w30 ho31 hb hg_ hnew_;clear hg_ hnew_;(first|rw [← Ny471.out] at ho31|(simp only [Int.reduceToNat] at ho31;rw [← Ny471.out] at ho31));have n0_:=Aside0.mk (Kd.R_lower ho31 (keep_size (w:=w) (g:=g) (row:=none) (by repeat (first|(with_reducible first|exact HK.out|apply KeepBut.set_|apply keep_drewN|apply keep_drew|apply keep_alloc)|exact HK.out))));have n1_:=Aside0.mk (IsS55.below (by repeat (first|(with_reducible first|exact HI0.out|apply IsS55.alloc|apply IsS55.drewN|apply IsS55.drew|apply IsS55.set_1)|exact HI0.out)) hb);have n2_:=Aside0.mk (KeepBut.trans (by repeat (first|(with_reducible first|exact HK.out|apply KeepBut.set_|apply keep_drewN|apply keep_drew|apply keep_alloc)|exact HK.out)) (KeepBut.of_below hb g none) (.inl rfl));have n3_:=Aside0.mk (below_step (by repeat (first|(with_reducible first|exact HB.out|apply below_alloc|apply pw_below_drewN|apply below_drew1|refine below_set ?_ (IsS55.ge HI0.out))|exact HB.out)) hb);clear HI0;clear HK;clear HB;have HO473:=n0_;have HI0:=n1_;have HK:=n2_;have HB:=n3_;clear n0_ n1_ n2_ n3_;clear hb ho31;obtain ⟨Ao32,co32,eo32⟩:=Kd.R_slice HO473.out;subst eo32)|((with_reducible refine gate_callee (f:=34) rfl ?_);refine goesL_ (some 30) rfl rfl Tryd.func34 (by kernel_rfl) rfl #[.pointer (some ⟨g,0,none⟩), .slice Ao32 y471.length co32] rfl (by (try simp only [List.map_toArray,List.map_cons,List.map_nil]);first|done|rfl|(simp only [List.length_drop,List.length_take];rfl)) ?_;(with_reducible refine (spec_l6Rd_of.calls kj2 g s0_0 t453 _ _ y471 t474 t475 w0 _ ?side1 ?side2 ?side3 ?side4 ?side5 A29.out).mono ?_);(case side1=>repeat (first|(with_reducible first|exact HI0.out|apply IsS55.alloc|apply IsS55.drewN|apply IsS55.drew|apply IsS55.set_1)|exact HI0.out));(case side2=>repeat (first|(with_reducible first|exact HB.out|apply below_alloc|apply pw_below_drewN|apply below_drew1|refine below_set ?_ (IsS55.ge HI0.out))|exact HB.out));(case side3=>repeat (first|exact (Kd.R_reads' HO473.out).2.2|(with_reducible refine Kd.C_alloc ?_ _)|(with_reducible refine Kd.C_drewN ?_ _)|(with_reducible refine Kd.C_drew ?_)));(case side4=>exact (Kd.R_reads' HO473.out).2.1);(case side5=>exact far_slice (IsS55.own_ne HI0.out HO473.out (by decide)));rintro e w33 ⟨rfl,hi,hb,hk⟩;refine ⟨_,rfl,?_⟩;have n0_:=Aside0.mk (Kd.R_mono (Kd.R_keep (IsS55.apart (show IsS55 w0 _ g s0_0 t453 from by repeat (first|(with_reducible first|exact HI0.out|apply IsS55.alloc|apply IsS55.drewN|apply IsS55.drew|apply IsS55.set_1)|exact HI0.out)) (by (with_reducible repeat (first|apply Kd.R_alloc|apply Kd.R_drewN|apply Kd.R_drew));exact HO473.out) (by decide)) hk (fun _ h=>h.2)) (fun _ h=>h.1));have n1_:=Aside0.mk (KeepBut.trans (by repeat (first|(with_reducible first|exact HK.out|apply KeepBut.set_|apply keep_drewN|apply keep_drew|apply keep_alloc)|exact HK.out)) hk (.inl rfl));have n2_:=Aside0.mk (hb);have n3_:=Aside0.mk (hi);clear HO473;clear HK;clear HB;clear HI0;have HO473:=n0_;have HK:=n1_;have HB:=n2_;have HI0:=n3_;clear n0_ n1_ n2_ n3_;(try clear hb);(try clear hb2);(try clear hk);(try clear hi)))
        go_ret
        exact ⟨by first|rfl|(simp <;> rfl)|(simp [*] <;> rfl),by repeat (first|(with_reducible first|exact HI0.out|apply IsS55.alloc|apply IsS55.drewN|apply IsS55.drew|apply IsS55.set_1)|exact HI0.out),by repeat (first|(with_reducible first|exact HB.out|apply below_alloc|apply pw_below_drewN|apply below_drew1|refine below_set ?_ (IsS55.ge HI0.out))|exact HB.out),by repeat (first|(with_reducible first|exact HK.out|apply KeepBut.set_|apply keep_drewN|apply keep_drew|apply keep_alloc)|exact HK.out)⟩
       ·rw [if_neg c28] at H
        have c28b0:(t452 == 5) = false:=beq_eq_false_iff_ne.mpr c28
        have c28b1:(t452 != 5) = true:=bne_iff_ne.mpr c28
        obtain ⟨y476,hy476⟩:∃ y_:List ByteArray,y_ = (([(⟨#[97]⟩:ByteArray),(⟨#[98]⟩:ByteArray),(⟨#[99]⟩:ByteArray),(⟨#[97,47,98]⟩:ByteArray)]:List ByteArray)):=⟨_,rfl⟩
        replace H:((spec_l6Rd_of.f kj2 s0_0 t453 y476).bind fun bt479=>(some (bt479.1,bt479.2))) = some (r1,r2):=by first|(rw [hy476];with_reducible exact H)|(have H2_:=(Option.bind_some _ _).symm.trans H;rw [hy476];with_reducible exact H2_)|(have H2_:=(Option.bind_some _ _).symm.trans H;with_reducible exact H2_)|with_reducible exact H|(rw [hy476];exact H)|exact H
        have Ny476:=Aside0.mk hy476
        clear hy476
        replace H:=Option.bind_eq_some_iff.mp H
        obtain ⟨⟨t479,t480⟩,A340,H⟩:=H
        replace H:(some (t479,t480)) = some (r1,r2):=H
        have A34:=Aside0.mk A340
        clear A340
        simp only [Option.some.injEq,Prod.mk.injEq] at H
        obtain ⟨rfl,rfl⟩:=H
        go_wp2_with (first|((with_reducible refine gate_dst (N:=32) rfl ?_);refine Kd.R_lit Kd.string _ 9 ?hg (N:=32) ?hd (xs:=([(⟨#[97]⟩:ByteArray),(⟨#[98]⟩:ByteArray),(⟨#[99]⟩:ByteArray),(⟨#[97,47,98]⟩:ByteArray)]:List ByteArray)) (inner:=[.string (⟨#[97]⟩:ByteArray), .string (⟨#[98]⟩:ByteArray), .string (⟨#[99]⟩:ByteArray), .string (⟨#[97,47,98]⟩:ByteArray)]) (ok:=fun _=>True) (okp:=fun _=>True) ?hr ?hp (fun _ hk=>hk) trivial (Below.refl _ _) (Nat.le_refl _) (by simp) ?_;(case hd=>rfl);(case hg=>rfl);(case hr=>first|(go_simp;done)|(go_simp;rfl));(case hp=>exact (Reps.one (show Kd.M Kd.string _ _ _ (⟨#[97]⟩:ByteArray) [.string (⟨#[97]⟩:ByteArray)] from rfl) (Reps.one (show Kd.M Kd.string _ _ _ (⟨#[98]⟩:ByteArray) [.string (⟨#[98]⟩:ByteArray)] from rfl) (Reps.one (show Kd.M Kd.string _ _ _ (⟨#[99]⟩:ByteArray) [.string (⟨#[99]⟩:ByteArray)] from rfl) (Reps.one (show Kd.M Kd.string _ _ _ (⟨#[97,47,98]⟩:ByteArray) [.string (⟨#[97,47,98]⟩:ByteArray)] from rfl) (Reps.none _ _))))));intro v477 w35 ho36 hb hg_ hnew_;clear hg_ hnew_;(first|rw [← Ny476.out] at ho36|(simp only [Int.reduceToNat] at ho36;rw [← Ny476.out] at ho36));have n0_:=Aside0.mk (Kd.R_lower ho36 (keep_size (w:=w) (g:=g) (row:=none) (by repeat (first|(with_reducible first|exact HK.out|apply KeepBut.set_|apply keep_drewN|apply keep_drew|apply keep_alloc)|exact HK.out))));have n1_:=Aside0.mk (IsS55.below (by repeat (first|(with_reducible first|exact HI0.out|apply IsS55.alloc|apply IsS55.drewN|apply IsS55.drew|apply IsS55.set_1)|exact HI0.out)) hb);have n2_:=Aside0.mk (KeepBut.trans (by repeat (first|(with_reducible first|exact HK.out|apply KeepBut.set_|apply keep_drewN|apply keep_drew|apply keep_alloc)|exact HK.out)) (KeepBut.of_below hb g none) (.inl rfl));have n3_:=Aside0.mk (below_step (by repeat (first|(with_reducible first|exact HB.out|apply below_alloc|apply pw_below_drewN|apply below_drew1|refine below_set ?_ (IsS55.ge HI0.out))|exact HB.out)) hb);clear HI0;clear HK;clear HB;have HO478:=n0_;have HI0:=n1_;have HK:=n2_;have HB:=n3_;clear n0_ n1_ n2_ n3_;clear hb ho36;obtain ⟨Ao37,co37,eo37⟩:=Kd.R_slice HO478.out;subst eo37)|((with_reducible refine gate_callee (f:=34) rfl ?_);refine goesL_ (some 33) rfl rfl Tryd.func34 (by kernel_rfl) rfl #[.pointer (some ⟨g,0,none⟩), .slice Ao37 y476.length co37] rfl (by (try simp only [List.map_toArray,List.map_cons,List.map_nil]);first|done|rfl|(simp only [List.length_drop,List.length_take];rfl)) ?_;(with_reducible refine (spec_l6Rd_of.calls kj2 g s0_0 t453 _ _ y476 t479 t480 w0 _ ?side1 ?side2 ?side3 ?side4 ?side5 A34.out).mono ?_);(case side1=>repeat (first|(with_reducible first|exact HI0.out|apply IsS55.alloc|apply IsS55.drewN|apply IsS55.drew|apply IsS55.set_1)|exact HI0.out));(case side2=>repeat (first|(with_reducible first|exact HB.out|apply below_alloc|apply pw_below_drewN|apply below_drew1|refine below_set ?_ (IsS55.ge HI0.out))|exact HB.out));(case side3=>repeat (first|exact (Kd.R_reads' HO478.out).2.2|(with_reducible refine Kd.C_alloc ?_ _)|(with_reducible refine Kd.C_drewN ?_ _)|(with_reducible refine Kd.C_drew ?_)));(case side4=>exact (Kd.R_reads' HO478.out).2.1);(case side5=>exact far_slice (IsS55.own_ne HI0.out HO478.out (by decide)));rintro e w38 ⟨rfl,hi,hb,hk⟩;refine ⟨_,rfl,?_⟩;have n0_:=Aside0.mk (Kd.R_mono (Kd.R_keep (IsS55.apart (show IsS55 w0 _ g s0_0 t453 from by repeat (first|(with_reducible first|exact HI0.out|apply IsS55.alloc|apply IsS55.drewN|apply IsS55.drew|apply IsS55.set_1)|exact HI0.out)) (by (with_reducible repeat (first|apply Kd.R_alloc|apply Kd.R_drewN|apply Kd.R_drew));exact HO478.out) (by decide)) hk (fun _ h=>h.2)) (fun _ h=>h.1));have n1_:=Aside0.mk (KeepBut.trans (by repeat (first|(with_reducible first|exact HK.out|apply KeepBut.set_|apply keep_drewN|apply keep_drew|apply keep_alloc)|exact HK.out)) hk (.inl rfl));have n2_:=Aside0.mk (hb);have n3_:=Aside0.mk (hi);clear HO478;clear HK;clear HB;clear HI0;have HO478:=n0_;have HK:=n1_;have HB:=n2_;have HI0:=n3_;clear n0_ n1_ n2_ n3_;(try clear hb);(try clear hb2);(try clear hk);(try clear hi)))
        go_ret
        exact ⟨by first|rfl|(simp <;> rfl)|(simp [*] <;> rfl),by repeat (first|(with_reducible first|exact HI0.out|apply IsS55.alloc|apply IsS55.drewN|apply IsS55.drew|apply IsS55.set_1)|exact HI0.out),by repeat (first|(with_reducible first|exact HB.out|apply below_alloc|apply pw_below_drewN|apply below_drew1|refine below_set ?_ (IsS55.ge HI0.out))|exact HB.out),by repeat (first|(with_reducible first|exact HK.out|apply KeepBut.set_|apply keep_drewN|apply keep_drew|apply keep_alloc)|exact HK.out)⟩

/-! ### spec_l71Part: function 35 -/
def spec_l71Part.f (k:Nat) (s0_0:List Int) (s0_1:Int):Option (ByteArray × Int):=(spec_l6Rd_of.f k s0_0 s0_1 (([(⟨#[97]⟩:ByteArray),(⟨#[98]⟩:ByteArray),(⟨#[99]⟩:ByteArray),(⟨#[120,46,121]⟩:ByteArray),(⟨#[46,46]⟩:ByteArray),(⟨#[46]⟩:ByteArray),(⟨#[]⟩:ByteArray),(⟨#[37,54,49]⟩:ByteArray),(⟨#[100,45,49]⟩:ByteArray),(⟨#[37,51,70]⟩:ByteArray),(⟨#[98]⟩:ByteArray)]:List ByteArray))).bind fun bt484=>(some (bt484.1,bt484.2))
theorem spec_l71Part.mono:∀ a0 a1 k,LeO (spec_l71Part.f k a0 a1) (spec_l71Part.f (k + 1) a0 a1):=by
 intro a0 a1 k
 unfold spec_l71Part.f
 repeat' first
   | (with_reducible exact spec_l6Rd_of.mono _ _ _ _)
   | (with_reducible exact LeO.refl _)
   | (with_reducible exact LeO.none _)
   | (with_reducible refine LeO.ite ?_ ?_)
   | (with_reducible refine LeO.bind ?_ (fun _=>?_))
   | exact spec_l6Rd_of.mono _ _ _ _
   | exact LeO.none _
   | refine LeO.ite ?_ ?_
   | refine LeO.bind ?_ (fun _=>?_)
theorem spec_l71Part.calls (k:Nat) (g:Nat) (s0_0:List Int) (s0_1:Int) (r1:ByteArray) (r2:Int) (w0 w:World) (hI:IsS55 w0 w g s0_0 s0_1) (hB:Below w0.heap.size w0 w) (h:spec_l71Part.f k s0_0 s0_1 = some (r1,r2)) :
  Calls Tryd.prog 35 #[.pointer (some ⟨g,0,none⟩)] w fun e w'=>e = .returned (.string r1) ∧ IsS55 w0 w' g s0_0 r2 ∧ Below w0.heap.size w0 w' ∧ KeepBut w w' g none:=by
 have HI0:=Aside0.mk hI
 have HK:=Aside0.mk (KeepBut.refl w g none)
 have HL:=Aside0.mk hB.size
 clear hI
 have HW0:=Aside0.mk hB.size
 have HB:=Aside0.mk hB
 clear hB
 have H:((spec_l6Rd_of.f k s0_0 s0_1 (([(⟨#[97]⟩:ByteArray),(⟨#[98]⟩:ByteArray),(⟨#[99]⟩:ByteArray),(⟨#[120,46,121]⟩:ByteArray),(⟨#[46,46]⟩:ByteArray),(⟨#[46]⟩:ByteArray),(⟨#[]⟩:ByteArray),(⟨#[37,54,49]⟩:ByteArray),(⟨#[100,45,49]⟩:ByteArray),(⟨#[37,51,70]⟩:ByteArray),(⟨#[98]⟩:ByteArray)]:List ByteArray))).bind fun bt484=>(some (bt484.1,bt484.2))) = some (r1,r2):=h
 clear h
 obtain ⟨y481,hy481⟩:∃ y_:List ByteArray,y_ = (([(⟨#[97]⟩:ByteArray),(⟨#[98]⟩:ByteArray),(⟨#[99]⟩:ByteArray),(⟨#[120,46,121]⟩:ByteArray),(⟨#[46,46]⟩:ByteArray),(⟨#[46]⟩:ByteArray),(⟨#[]⟩:ByteArray),(⟨#[37,54,49]⟩:ByteArray),(⟨#[100,45,49]⟩:ByteArray),(⟨#[37,51,70]⟩:ByteArray),(⟨#[98]⟩:ByteArray)]:List ByteArray)):=⟨_,rfl⟩
 replace H:((spec_l6Rd_of.f k s0_0 s0_1 y481).bind fun bt484=>(some (bt484.1,bt484.2))) = some (r1,r2):=by first|(rw [hy481];with_reducible exact H)|(have H2_:=(Option.bind_some _ _).symm.trans H;rw [hy481];with_reducible exact H2_)|(have H2_:=(Option.bind_some _ _).symm.trans H;with_reducible exact H2_)|with_reducible exact H|(rw [hy481];exact H)|exact H
 have Ny481:=Aside0.mk hy481
 clear hy481
 replace H:=Option.bind_eq_some_iff.mp H
 obtain ⟨⟨t484,t485⟩,A20,H⟩:=H
 replace H:(some (t484,t485)) = some (r1,r2):=H
 have A2:=Aside0.mk A20
 clear A20
 simp only [Option.some.injEq,Prod.mk.injEq] at H
 obtain ⟨rfl,rfl⟩:=H
 go_enter Tryd.func35,Tryd.ntmps35
 go_wp2_with (first|((with_reducible refine gate_dst (N:=4) rfl ?_);refine Kd.R_lit Kd.string _ 9 ?hg (N:=4) ?hd (xs:=([(⟨#[97]⟩:ByteArray),(⟨#[98]⟩:ByteArray),(⟨#[99]⟩:ByteArray),(⟨#[120,46,121]⟩:ByteArray),(⟨#[46,46]⟩:ByteArray),(⟨#[46]⟩:ByteArray),(⟨#[]⟩:ByteArray),(⟨#[37,54,49]⟩:ByteArray),(⟨#[100,45,49]⟩:ByteArray),(⟨#[37,51,70]⟩:ByteArray),(⟨#[98]⟩:ByteArray)]:List ByteArray)) (inner:=[.string (⟨#[97]⟩:ByteArray), .string (⟨#[98]⟩:ByteArray), .string (⟨#[99]⟩:ByteArray), .string (⟨#[120,46,121]⟩:ByteArray), .string (⟨#[46,46]⟩:ByteArray), .string (⟨#[46]⟩:ByteArray), .string (⟨#[]⟩:ByteArray), .string (⟨#[37,54,49]⟩:ByteArray), .string (⟨#[100,45,49]⟩:ByteArray), .string (⟨#[37,51,70]⟩:ByteArray), .string (⟨#[98]⟩:ByteArray)]) (ok:=fun _=>True) (okp:=fun _=>True) ?hr ?hp (fun _ hk=>hk) trivial (Below.refl _ _) (Nat.le_refl _) (by simp) ?_;(case hd=>rfl);(case hg=>rfl);(case hr=>first|(go_simp;done)|(go_simp;rfl));(case hp=>exact (Reps.one (show Kd.M Kd.string _ _ _ (⟨#[97]⟩:ByteArray) [.string (⟨#[97]⟩:ByteArray)] from rfl) (Reps.one (show Kd.M Kd.string _ _ _ (⟨#[98]⟩:ByteArray) [.string (⟨#[98]⟩:ByteArray)] from rfl) (Reps.one (show Kd.M Kd.string _ _ _ (⟨#[99]⟩:ByteArray) [.string (⟨#[99]⟩:ByteArray)] from rfl) (Reps.one (show Kd.M Kd.string _ _ _ (⟨#[120,46,121]⟩:ByteArray) [.string (⟨#[120,46,121]⟩:ByteArray)] from rfl) (Reps.one (show Kd.M Kd.string _ _ _ (⟨#[46,46]⟩:ByteArray) [.string (⟨#[46,46]⟩:ByteArray)] from rfl) (Reps.one (show Kd.M Kd.string _ _ _ (⟨#[46]⟩:ByteArray) [.string (⟨#[46]⟩:ByteArray)] from rfl) (Reps.one (show Kd.M Kd.string _ _ _ (⟨#[]⟩:ByteArray) [.string (⟨#[]⟩:ByteArray)] from rfl) (Reps.one (show Kd.M Kd.string _ _ _ (⟨#[37,54,49]⟩:ByteArray) [.string (⟨#[37,54,49]⟩:ByteArray)] from rfl) (Reps.one (show Kd.M Kd.string _ _ _ (⟨#[100,45,49]⟩:ByteArray) [.string (⟨#[100,45,49]⟩:ByteArray)] from rfl) (Reps.one (show Kd.M Kd.string _ _ _ (⟨#[37,51,70]⟩:ByteArray) [.string (⟨#[37,51,70]⟩:ByteArray)] from rfl) (Reps.one (show Kd.M Kd.string _ _ _ (⟨#[98]⟩:ByteArray) [.string (⟨#[98]⟩:ByteArray)] from rfl) (Reps.none _ _)))))))))))));intro v482 w3 ho4 hb hg_ hnew_;clear hg_ hnew_;(first|rw [← Ny481.out] at ho4|(simp only [Int.reduceToNat] at ho4;rw [← Ny481.out] at ho4));have n0_:=Aside0.mk (Kd.R_lower ho4 (keep_size (w:=w) (g:=g) (row:=none) (by repeat (first|(with_reducible first|exact HK.out|apply KeepBut.set_|apply keep_drewN|apply keep_drew|apply keep_alloc)|exact HK.out))));have n1_:=Aside0.mk (IsS55.below (by repeat (first|(with_reducible first|exact HI0.out|apply IsS55.alloc|apply IsS55.drewN|apply IsS55.drew|apply IsS55.set_1)|exact HI0.out)) hb);have n2_:=Aside0.mk (KeepBut.trans (by repeat (first|(with_reducible first|exact HK.out|apply KeepBut.set_|apply keep_drewN|apply keep_drew|apply keep_alloc)|exact HK.out)) (KeepBut.of_below hb g none) (.inl rfl));have n3_:=Aside0.mk (below_step (by repeat (first|(with_reducible first|exact HB.out|apply below_alloc|apply pw_below_drewN|apply below_drew1|refine below_set ?_ (IsS55.ge HI0.out))|exact HB.out)) hb);clear HI0;clear HK;clear HB;have HO483:=n0_;have HI0:=n1_;have HK:=n2_;have HB:=n3_;clear n0_ n1_ n2_ n3_;clear hb ho4;obtain ⟨Ao5,co5,eo5⟩:=Kd.R_slice HO483.out;subst eo5)|((with_reducible refine gate_callee (f:=34) rfl ?_);refine goesL_ (some 5) rfl rfl Tryd.func34 (by kernel_rfl) rfl #[.pointer (some ⟨g,0,none⟩), .slice Ao5 y481.length co5] rfl (by (try simp only [List.map_toArray,List.map_cons,List.map_nil]);first|done|rfl|(simp only [List.length_drop,List.length_take];rfl)) ?_;(with_reducible refine (spec_l6Rd_of.calls k g s0_0 s0_1 _ _ y481 t484 t485 w0 _ ?side1 ?side2 ?side3 ?side4 ?side5 A2.out).mono ?_);(case side1=>repeat (first|(with_reducible first|exact HI0.out|apply IsS55.alloc|apply IsS55.drewN|apply IsS55.drew|apply IsS55.set_1)|exact HI0.out));(case side2=>repeat (first|(with_reducible first|exact HB.out|apply below_alloc|apply pw_below_drewN|apply below_drew1|refine below_set ?_ (IsS55.ge HI0.out))|exact HB.out));(case side3=>repeat (first|exact (Kd.R_reads' HO483.out).2.2|(with_reducible refine Kd.C_alloc ?_ _)|(with_reducible refine Kd.C_drewN ?_ _)|(with_reducible refine Kd.C_drew ?_)));(case side4=>exact (Kd.R_reads' HO483.out).2.1);(case side5=>exact far_slice (IsS55.own_ne HI0.out HO483.out (by decide)));rintro e w6 ⟨rfl,hi,hb,hk⟩;refine ⟨_,rfl,?_⟩;have n0_:=Aside0.mk (Kd.R_mono (Kd.R_keep (IsS55.apart (show IsS55 w0 _ g s0_0 s0_1 from by repeat (first|(with_reducible first|exact HI0.out|apply IsS55.alloc|apply IsS55.drewN|apply IsS55.drew|apply IsS55.set_1)|exact HI0.out)) (by (with_reducible repeat (first|apply Kd.R_alloc|apply Kd.R_drewN|apply Kd.R_drew));exact HO483.out) (by decide)) hk (fun _ h=>h.2)) (fun _ h=>h.1));have n1_:=Aside0.mk (KeepBut.trans (by repeat (first|(with_reducible first|exact HK.out|apply KeepBut.set_|apply keep_drewN|apply keep_drew|apply keep_alloc)|exact HK.out)) hk (.inl rfl));have n2_:=Aside0.mk (hb);have n3_:=Aside0.mk (hi);clear HO483;clear HK;clear HB;clear HI0;have HO483:=n0_;have HK:=n1_;have HB:=n2_;have HI0:=n3_;clear n0_ n1_ n2_ n3_;(try clear hb);(try clear hb2);(try clear hk);(try clear hi)))
 go_ret
 exact ⟨by first|rfl|(simp <;> rfl)|(simp [*] <;> rfl),by repeat (first|(with_reducible first|exact HI0.out|apply IsS55.alloc|apply IsS55.drewN|apply IsS55.drew|apply IsS55.set_1)|exact HI0.out),by repeat (first|(with_reducible first|exact HB.out|apply below_alloc|apply pw_below_drewN|apply below_drew1|refine below_set ?_ (IsS55.ge HI0.out))|exact HB.out),by repeat (first|(with_reducible first|exact HK.out|apply KeepBut.set_|apply keep_drewN|apply keep_drew|apply keep_alloc)|exact HK.out)⟩

/-! ### spec_DrawAddrRead: function 17 -/
def spec_DrawAddrRead.l0:Nat → ByteArray → Int → List Int → Int → Option (ByteArray)
 | 0,_,_,_,_=>none
 | k + 1,x4,x5,x489000,x489001=>if x5 > 0 then (if x4.size + 1 ≤ 9223372036854775807 then ((spec_l71Part.f k x489000 x489001).bind fun bt500=>(if (x4 ++ (⟨#[47]⟩:ByteArray)).size + bt500.1.size ≤ 9223372036854775807 then (spec_DrawAddrRead.l0 k ((x4 ++ (⟨#[47]⟩:ByteArray)) ++ bt500.1) (wrap64 (x5 - 1)) x489000 bt500.2) else (none))) else (none)) else ((spec_l6Rd_of.f k x489000 x489001 (([(⟨#[]⟩:ByteArray),(⟨#[]⟩:ByteArray),(⟨#[47]⟩:ByteArray),(⟨#[63,97]⟩:ByteArray),(⟨#[63,37,54,49,61,98]⟩:ByteArray),(⟨#[35,120]⟩:ByteArray),(⟨#[63,97,63,98]⟩:ByteArray),(⟨#[63,97,35,98]⟩:ByteArray)]:List ByteArray))).bind fun bt505=>(if x4.size + bt505.1.size ≤ 9223372036854775807 then (some (x4 ++ bt505.1)) else (none)))
def spec_DrawAddrRead.f (k:Nat) (l0:List Int):Option (ByteArray):=(spec_l6Open.f l0).bind fun bt486=>((spec_l6Rd_pick.f k bt486.1 bt486.2 3).bind fun bt489=>(if bt489.1 = 0 then ((spec_l71Ref.f k bt486.1 bt489.2).bind fun bt491=>(some bt491.1)) else ((spec_l6Rd_of.f k bt486.1 bt489.2 (([(⟨#[97,98]⟩:ByteArray),(⟨#[67,68]⟩:ByteArray),(⟨#[101]⟩:ByteArray),(⟨#[102,111,120]⟩:ByteArray),(⟨#[97,49]⟩:ByteArray),(⟨#[]⟩:ByteArray)]:List ByteArray))).bind fun bt496=>(if 2 + bt496.1.size ≤ 9223372036854775807 then ((spec_l6Rd_pick.f k bt486.1 bt496.2 5).bind fun bt498=>(spec_DrawAddrRead.l0 k ((⟨#[47,47]⟩:ByteArray) ++ bt496.1) bt498.1 bt486.1 bt498.2)) else (none)))))
theorem spec_DrawAddrRead.mono_l:∀ k,(∀ y0 y1 y2 y3,LeO (spec_DrawAddrRead.l0 k y0 y1 y2 y3) (spec_DrawAddrRead.l0 (k + 1) y0 y1 y2 y3))
 | 0=>fun _ _ _ _ r h=>by simp [spec_DrawAddrRead.l0] at h
 | k + 1=>by
  have ih0:=spec_DrawAddrRead.mono_l k
  ·intro y0 y1 y2 y3
   unfold spec_DrawAddrRead.l0
   repeat' first
   | (with_reducible exact ih0 _ _ _ _)
   | (with_reducible exact spec_l6Rd_of.mono _ _ _ _)
   | (with_reducible exact spec_l6Rd_pick.mono _ _ _ _)
   | (with_reducible exact spec_l71Part.mono _ _ _)
   | (with_reducible exact spec_l71Ref.mono _ _ _)
   | (with_reducible exact LeO.refl _)
   | (with_reducible exact LeO.none _)
   | (with_reducible refine LeO.ite ?_ ?_)
   | (with_reducible refine LeO.bind ?_ (fun _=>?_))
   | exact ih0 _ _ _ _
   | exact spec_l6Rd_of.mono _ _ _ _
   | exact spec_l6Rd_pick.mono _ _ _ _
   | exact spec_l71Part.mono _ _ _
   | exact spec_l71Ref.mono _ _ _
   | exact LeO.none _
   | refine LeO.ite ?_ ?_
   | refine LeO.bind ?_ (fun _=>?_)
theorem spec_DrawAddrRead.mono:∀ a0 k,LeO (spec_DrawAddrRead.f k a0) (spec_DrawAddrRead.f (k + 1) a0):=by
 intro a0 k
 have ih0:=spec_DrawAddrRead.mono_l k
 unfold spec_DrawAddrRead.f
 repeat' first
   | (with_reducible exact ih0 _ _ _ _)
   | (with_reducible exact spec_l6Rd_of.mono _ _ _ _)
   | (with_reducible exact spec_l6Rd_pick.mono _ _ _ _)
   | (with_reducible exact spec_l71Part.mono _ _ _)
   | (with_reducible exact spec_l71Ref.mono _ _ _)
   | (with_reducible exact LeO.refl _)
   | (with_reducible exact LeO.none _)
   | (with_reducible refine LeO.ite ?_ ?_)
   | (with_reducible refine LeO.bind ?_ (fun _=>?_))
   | exact ih0 _ _ _ _
   | exact spec_l6Rd_of.mono _ _ _ _
   | exact spec_l6Rd_pick.mono _ _ _ _
   | exact spec_l71Part.mono _ _ _
   | exact spec_l71Ref.mono _ _ _
   | exact LeO.none _
   | refine LeO.ite ?_ ?_
   | refine LeO.bind ?_ (fun _=>?_)
theorem spec_DrawAddrRead.calls (k:Nat) (A0:Option Addr) (c0:Nat) (l0:List Int) (r:ByteArray) (w:World) (hr0:Kd.C (Kd.int .u8) w A0 l0.length l0) (hc0:l0.length ≤ c0) (h:spec_DrawAddrRead.f k l0 = some r) :
  Calls Tryd.prog 17 #[.slice A0 l0.length c0] w fun e w'=>e = .returned (.string r) ∧ Below w.heap.size w w':=by
 have HR0:=Aside0.mk hr0
 have HC0:=Aside0.mk hc0
 clear hr0 hc0
 have HB:=Aside0.mk (Below.refl w.heap.size w)
 have H:((spec_l6Open.f l0).bind fun bt486=>((spec_l6Rd_pick.f k bt486.1 bt486.2 3).bind fun bt489=>(if bt489.1 = 0 then ((spec_l71Ref.f k bt486.1 bt489.2).bind fun bt491=>(some bt491.1)) else ((spec_l6Rd_of.f k bt486.1 bt489.2 (([(⟨#[97,98]⟩:ByteArray),(⟨#[67,68]⟩:ByteArray),(⟨#[101]⟩:ByteArray),(⟨#[102,111,120]⟩:ByteArray),(⟨#[97,49]⟩:ByteArray),(⟨#[]⟩:ByteArray)]:List ByteArray))).bind fun bt496=>(if 2 + bt496.1.size ≤ 9223372036854775807 then ((spec_l6Rd_pick.f k bt486.1 bt496.2 5).bind fun bt498=>(spec_DrawAddrRead.l0 k ((⟨#[47,47]⟩:ByteArray) ++ bt496.1) bt498.1 bt486.1 bt498.2)) else (none)))))) = some r:=h
 clear h
 replace H:=Option.bind_eq_some_iff.mp H
 obtain ⟨⟨t486,t487⟩,A20,H⟩:=H
 replace H:((spec_l6Rd_pick.f k t486 t487 3).bind fun bt489=>(if bt489.1 = 0 then ((spec_l71Ref.f k t486 bt489.2).bind fun bt491=>(some bt491.1)) else ((spec_l6Rd_of.f k t486 bt489.2 (([(⟨#[97,98]⟩:ByteArray),(⟨#[67,68]⟩:ByteArray),(⟨#[101]⟩:ByteArray),(⟨#[102,111,120]⟩:ByteArray),(⟨#[97,49]⟩:ByteArray),(⟨#[]⟩:ByteArray)]:List ByteArray))).bind fun bt496=>(if 2 + bt496.1.size ≤ 9223372036854775807 then ((spec_l6Rd_pick.f k t486 bt496.2 5).bind fun bt498=>(spec_DrawAddrRead.l0 k ((⟨#[47,47]⟩:ByteArray) ++ bt496.1) bt498.1 t486 bt498.2)) else (none))))) = some r:=H
 have A2:=Aside0.mk A20
 clear A20
 replace H:=Option.bind_eq_some_iff.mp H
 obtain ⟨⟨t489,t490⟩,A30,H⟩:=H
 replace H:(if t489 = 0 then ((spec_l71Ref.f k t486 t490).bind fun bt491=>(some bt491.1)) else ((spec_l6Rd_of.f k t486 t490 (([(⟨#[97,98]⟩:ByteArray),(⟨#[67,68]⟩:ByteArray),(⟨#[101]⟩:ByteArray),(⟨#[102,111,120]⟩:ByteArray),(⟨#[97,49]⟩:ByteArray),(⟨#[]⟩:ByteArray)]:List ByteArray))).bind fun bt496=>(if 2 + bt496.1.size ≤ 9223372036854775807 then ((spec_l6Rd_pick.f k t486 bt496.2 5).bind fun bt498=>(spec_DrawAddrRead.l0 k ((⟨#[47,47]⟩:ByteArray) ++ bt496.1) bt498.1 t486 bt498.2)) else (none)))) = some r:=H
 have A3:=Aside0.mk A30
 clear A30
 by_cases c4:t489 = 0
 ·rw [if_pos c4] at H
  have c4b0:(t489 == 0) = true:=beq_iff_eq.mpr c4
  have c4b1:(t489 != 0) = false:=bne_eq_false_iff_eq.mpr c4
  clear c4
  replace H:=Option.bind_eq_some_iff.mp H
  obtain ⟨⟨t491,t492⟩,A50,H⟩:=H
  replace H:(some t491) = some r:=H
  have A5:=Aside0.mk A50
  clear A50
  obtain rfl:=Option.some.inj H
  go_enter Tryd.func17,Tryd.ntmps17
  go_wp2_with (first|((with_reducible refine gate_callee (f:=27) rfl ?_);refine goesL_ (some 7) rfl rfl Tryd.func27 (by kernel_rfl) rfl #[.slice A0 l0.length c0] rfl (by (try simp only [List.map_toArray,List.map_cons,List.map_nil]);first|done|rfl|(simp only [List.length_drop,List.length_take];rfl)) ?_;(with_reducible refine (spec_l6Open.calls _ _ l0 t486 t487 w _ ?side1 ?side2 ?side3 A2.out).mono ?_);(case side1=>repeat (first|(with_reducible first|exact HB.out|apply below_alloc|apply pw_below_drewN|apply below_drew1)|exact HB.out));(case side2=>exact HR0.out);(case side3=>exact HC0.out);rintro e w6 ⟨g488,rfl,hi,hb,hb2⟩;refine ⟨_,rfl,?_⟩;have n0_:=Aside0.mk (hb);have n1_:=Aside0.mk (hi);clear HB;have HB:=n0_;have HI488:=n1_;clear n0_ n1_;(try clear hb);(try clear hb2);(try clear hk);(try clear hi))|((with_reducible refine gate_callee (f:=32) rfl ?_);refine goesL_ (some 9) rfl rfl Tryd.func32 (by kernel_rfl) rfl #[.pointer (some ⟨g488,0,none⟩), .int .i64 3] rfl (by (try simp only [List.map_toArray,List.map_cons,List.map_nil]);first|done|rfl|(simp only [List.length_drop,List.length_take];rfl)) ?_;(with_reducible refine (spec_l6Rd_pick.calls k g488 t486 t487 3 t489 t490 w _ ?side1 ?side2 A3.out).mono ?_);(case side1=>repeat (first|(with_reducible first|exact HI488.out|apply IsS55.alloc|apply IsS55.drewN|apply IsS55.drew|apply IsS55.set_1)|exact HI488.out));(case side2=>repeat (first|(with_reducible first|exact HB.out|apply below_alloc|apply pw_below_drewN|apply below_drew1|refine below_set ?_ (IsS55.ge HI488.out))|exact HB.out));rintro e w7 ⟨rfl,hi,hb,hk⟩;refine ⟨_,rfl,?_⟩;have n0_:=Aside0.mk (hb);have n1_:=Aside0.mk (hi);clear HB;clear HI488;have HB:=n0_;have HI488:=n1_;clear n0_ n1_;(try clear hb);(try clear hb2);(try clear hk);(try clear hi))|((with_reducible refine gate_callee (f:=33) rfl ?_);refine goesL_ (some 12) rfl rfl Tryd.func33 (by kernel_rfl) rfl #[.pointer (some ⟨g488,0,none⟩)] rfl (by (try simp only [List.map_toArray,List.map_cons,List.map_nil]);first|done|rfl|(simp only [List.length_drop,List.length_take];rfl)) ?_;(with_reducible refine (spec_l71Ref.calls k g488 t486 t490 t491 t492 w _ ?side1 ?side2 A5.out).mono ?_);(case side1=>repeat (first|(with_reducible first|exact HI488.out|apply IsS55.alloc|apply IsS55.drewN|apply IsS55.drew|apply IsS55.set_1)|exact HI488.out));(case side2=>repeat (first|(with_reducible first|exact HB.out|apply below_alloc|apply pw_below_drewN|apply below_drew1|refine below_set ?_ (IsS55.ge HI488.out))|exact HB.out));rintro e w8 ⟨rfl,hi,hb,hk⟩;refine ⟨_,rfl,?_⟩;have n0_:=Aside0.mk (hb);have n1_:=Aside0.mk (hi);clear HB;clear HI488;have HB:=n0_;have HI488:=n1_;clear n0_ n1_;(try clear hb);(try clear hb2);(try clear hk);(try clear hi)))
  go_ret
  exact ⟨by first|rfl|(simp <;> rfl)|(simp [*] <;> rfl),by repeat (first|(with_reducible first|exact HB.out|apply below_alloc|apply pw_below_drewN|apply below_drew1|refine below_set ?_ (IsS55.ge HI488.out))|exact HB.out)⟩
 ·rw [if_neg c4] at H
  have c4b0:(t489 == 0) = false:=beq_eq_false_iff_ne.mpr c4
  have c4b1:(t489 != 0) = true:=bne_iff_ne.mpr c4
  obtain ⟨y493,hy493⟩:∃ y_:List ByteArray,y_ = (([(⟨#[97,98]⟩:ByteArray),(⟨#[67,68]⟩:ByteArray),(⟨#[101]⟩:ByteArray),(⟨#[102,111,120]⟩:ByteArray),(⟨#[97,49]⟩:ByteArray),(⟨#[]⟩:ByteArray)]:List ByteArray)):=⟨_,rfl⟩
  replace H:((spec_l6Rd_of.f k t486 t490 y493).bind fun bt496=>(if 2 + bt496.1.size ≤ 9223372036854775807 then ((spec_l6Rd_pick.f k t486 bt496.2 5).bind fun bt498=>(spec_DrawAddrRead.l0 k ((⟨#[47,47]⟩:ByteArray) ++ bt496.1) bt498.1 t486 bt498.2)) else (none))) = some r:=by first|(rw [hy493];with_reducible exact H)|(have H2_:=(Option.bind_some _ _).symm.trans H;rw [hy493];with_reducible exact H2_)|(have H2_:=(Option.bind_some _ _).symm.trans H;with_reducible exact H2_)|with_reducible exact H|(rw [hy493];exact H)|exact H
  have Ny493:=Aside0.mk hy493
  clear hy493
  replace H:=Option.bind_eq_some_iff.mp H
  obtain ⟨⟨t496,t497⟩,A90,H⟩:=H
  replace H:(if 2 + t496.size ≤ 9223372036854775807 then ((spec_l6Rd_pick.f k t486 t497 5).bind fun bt498=>(spec_DrawAddrRead.l0 k ((⟨#[47,47]⟩:ByteArray) ++ t496) bt498.1 t486 bt498.2)) else (none)) = some r:=H
  have A9:=Aside0.mk A90
  clear A90
  by_cases c10:2 + t496.size ≤ 9223372036854775807
  ·rw [if_pos c10] at H
   have c10b0:=eq_true c10
   have c10b1:=decide_eq_true c10
   try have c10b2:(9223372036854775807 < 2 + t496.size) = False:=eq_false (Nat.not_lt.2 c10)
   replace H:=Option.bind_eq_some_iff.mp H
   obtain ⟨⟨t498,t499⟩,A110,H⟩:=H
   replace H:(spec_DrawAddrRead.l0 k ((⟨#[47,47]⟩:ByteArray) ++ t496) t498 t486 t499) = some r:=H
   have A11:=Aside0.mk A110
   clear A110
   have H':=Aside0.mk H
   clear H
   go_enter Tryd.func17,Tryd.ntmps17
   go_wp2_with (first|((with_reducible refine gate_callee (f:=27) rfl ?_);refine goesL_ (some 7) rfl rfl Tryd.func27 (by kernel_rfl) rfl #[.slice A0 l0.length c0] rfl (by (try simp only [List.map_toArray,List.map_cons,List.map_nil]);first|done|rfl|(simp only [List.length_drop,List.length_take];rfl)) ?_;(with_reducible refine (spec_l6Open.calls _ _ l0 t486 t487 w _ ?side1 ?side2 ?side3 A2.out).mono ?_);(case side1=>repeat (first|(with_reducible first|exact HB.out|apply below_alloc|apply pw_below_drewN|apply below_drew1)|exact HB.out));(case side2=>exact HR0.out);(case side3=>exact HC0.out);rintro e w12 ⟨g488,rfl,hi,hb,hb2⟩;refine ⟨_,rfl,?_⟩;have n0_:=Aside0.mk (hb);have n1_:=Aside0.mk (hi);clear HB;have HB:=n0_;have HI488:=n1_;clear n0_ n1_;(try clear hb);(try clear hb2);(try clear hk);(try clear hi))|((with_reducible refine gate_callee (f:=32) rfl ?_);refine goesL_ (some 9) rfl rfl Tryd.func32 (by kernel_rfl) rfl #[.pointer (some ⟨g488,0,none⟩), .int .i64 3] rfl (by (try simp only [List.map_toArray,List.map_cons,List.map_nil]);first|done|rfl|(simp only [List.length_drop,List.length_take];rfl)) ?_;(with_reducible refine (spec_l6Rd_pick.calls k g488 t486 t487 3 t489 t490 w _ ?side1 ?side2 A3.out).mono ?_);(case side1=>repeat (first|(with_reducible first|exact HI488.out|apply IsS55.alloc|apply IsS55.drewN|apply IsS55.drew|apply IsS55.set_1)|exact HI488.out));(case side2=>repeat (first|(with_reducible first|exact HB.out|apply below_alloc|apply pw_below_drewN|apply below_drew1|refine below_set ?_ (IsS55.ge HI488.out))|exact HB.out));rintro e w13 ⟨rfl,hi,hb,hk⟩;refine ⟨_,rfl,?_⟩;have n0_:=Aside0.mk (hb);have n1_:=Aside0.mk (hi);clear HB;clear HI488;have HB:=n0_;have HI488:=n1_;clear n0_ n1_;(try clear hb);(try clear hb2);(try clear hk);(try clear hi))|((with_reducible refine gate_dst (N:=14) rfl ?_);refine Kd.R_lit Kd.string _ 9 ?hg (N:=14) ?hd (xs:=([(⟨#[97,98]⟩:ByteArray),(⟨#[67,68]⟩:ByteArray),(⟨#[101]⟩:ByteArray),(⟨#[102,111,120]⟩:ByteArray),(⟨#[97,49]⟩:ByteArray),(⟨#[]⟩:ByteArray)]:List ByteArray)) (inner:=[.string (⟨#[97,98]⟩:ByteArray), .string (⟨#[67,68]⟩:ByteArray), .string (⟨#[101]⟩:ByteArray), .string (⟨#[102,111,120]⟩:ByteArray), .string (⟨#[97,49]⟩:ByteArray), .string (⟨#[]⟩:ByteArray)]) (ok:=fun _=>True) (okp:=fun _=>True) ?hr ?hp (fun _ hk=>hk) trivial (Below.refl _ _) (Nat.le_refl _) (by simp) ?_;(case hd=>rfl);(case hg=>rfl);(case hr=>first|(go_simp;done)|(go_simp;rfl));(case hp=>exact (Reps.one (show Kd.M Kd.string _ _ _ (⟨#[97,98]⟩:ByteArray) [.string (⟨#[97,98]⟩:ByteArray)] from rfl) (Reps.one (show Kd.M Kd.string _ _ _ (⟨#[67,68]⟩:ByteArray) [.string (⟨#[67,68]⟩:ByteArray)] from rfl) (Reps.one (show Kd.M Kd.string _ _ _ (⟨#[101]⟩:ByteArray) [.string (⟨#[101]⟩:ByteArray)] from rfl) (Reps.one (show Kd.M Kd.string _ _ _ (⟨#[102,111,120]⟩:ByteArray) [.string (⟨#[102,111,120]⟩:ByteArray)] from rfl) (Reps.one (show Kd.M Kd.string _ _ _ (⟨#[97,49]⟩:ByteArray) [.string (⟨#[97,49]⟩:ByteArray)] from rfl) (Reps.one (show Kd.M Kd.string _ _ _ (⟨#[]⟩:ByteArray) [.string (⟨#[]⟩:ByteArray)] from rfl) (Reps.none _ _))))))));intro v494 w14 ho15 hb hg_ hnew_;clear hg_ hnew_;(first|rw [← Ny493.out] at ho15|(simp only [Int.reduceToNat] at ho15;rw [← Ny493.out] at ho15));have n0_:=Aside0.mk (Kd.R_lower ho15 (below_size (by repeat (first|(with_reducible first|exact HB.out|apply below_alloc|apply pw_below_drewN|apply below_drew1|refine below_set ?_ (IsS55.ge HI488.out))|exact HB.out))));have n1_:=Aside0.mk (IsS55.below (by repeat (first|(with_reducible first|exact HI488.out|apply IsS55.alloc|apply IsS55.drewN|apply IsS55.drew|apply IsS55.set_1)|exact HI488.out)) hb);have n2_:=Aside0.mk (below_step (by repeat (first|(with_reducible first|exact HB.out|apply below_alloc|apply pw_below_drewN|apply below_drew1|refine below_set ?_ (IsS55.ge HI488.out))|exact HB.out)) hb);clear HI488;clear HB;have HO495:=n0_;have HI488:=n1_;have HB:=n2_;clear n0_ n1_ n2_;clear hb ho15;obtain ⟨Ao16,co16,eo16⟩:=Kd.R_slice HO495.out;subst eo16)|((with_reducible refine gate_callee (f:=34) rfl ?_);refine goesL_ (some 15) rfl rfl Tryd.func34 (by kernel_rfl) rfl #[.pointer (some ⟨g488,0,none⟩), .slice Ao16 y493.length co16] rfl (by (try simp only [List.map_toArray,List.map_cons,List.map_nil]);first|done|rfl|(simp only [List.length_drop,List.length_take];rfl)) ?_;(with_reducible refine (spec_l6Rd_of.calls k g488 t486 t490 _ _ y493 t496 t497 w _ ?side1 ?side2 ?side3 ?side4 ?side5 A9.out).mono ?_);(case side1=>repeat (first|(with_reducible first|exact HI488.out|apply IsS55.alloc|apply IsS55.drewN|apply IsS55.drew|apply IsS55.set_1)|exact HI488.out));(case side2=>repeat (first|(with_reducible first|exact HB.out|apply below_alloc|apply pw_below_drewN|apply below_drew1|refine below_set ?_ (IsS55.ge HI488.out))|exact HB.out));(case side3=>repeat (first|exact (Kd.R_reads' HO495.out).2.2|(with_reducible refine Kd.C_alloc ?_ _)|(with_reducible refine Kd.C_drewN ?_ _)|(with_reducible refine Kd.C_drew ?_)));(case side4=>exact (Kd.R_reads' HO495.out).2.1);(case side5=>exact far_slice (IsS55.own_ne HI488.out HO495.out (by decide)));rintro e w17 ⟨rfl,hi,hb,hk⟩;refine ⟨_,rfl,?_⟩;have n0_:=Aside0.mk (Kd.R_mono (Kd.R_keep (IsS55.apart (show IsS55 w _ g488 t486 t490 from by repeat (first|(with_reducible first|exact HI488.out|apply IsS55.alloc|apply IsS55.drewN|apply IsS55.drew|apply IsS55.set_1)|exact HI488.out)) (by (with_reducible repeat (first|apply Kd.R_alloc|apply Kd.R_drewN|apply Kd.R_drew));exact HO495.out) (by decide)) hk (fun _ h=>h.2)) (fun _ h=>h.1));have n1_:=Aside0.mk (hb);have n2_:=Aside0.mk (hi);clear HO495;clear HB;clear HI488;have HO495:=n0_;have HB:=n1_;have HI488:=n2_;clear n0_ n1_ n2_;(try clear hb);(try clear hb2);(try clear hk);(try clear hi))|((with_reducible refine gate_callee (f:=32) rfl ?_);refine goesL_ (some 18) rfl rfl Tryd.func32 (by kernel_rfl) rfl #[.pointer (some ⟨g488,0,none⟩), .int .i64 5] rfl (by (try simp only [List.map_toArray,List.map_cons,List.map_nil]);first|done|rfl|(simp only [List.length_drop,List.length_take];rfl)) ?_;(with_reducible refine (spec_l6Rd_pick.calls k g488 t486 t497 5 t498 t499 w _ ?side1 ?side2 A11.out).mono ?_);(case side1=>repeat (first|(with_reducible first|exact HI488.out|apply IsS55.alloc|apply IsS55.drewN|apply IsS55.drew|apply IsS55.set_1)|exact HI488.out));(case side2=>repeat (first|(with_reducible first|exact HB.out|apply below_alloc|apply pw_below_drewN|apply below_drew1|refine below_set ?_ (IsS55.ge HI488.out))|exact HB.out));rintro e w18 ⟨rfl,hi,hb,hk⟩;refine ⟨_,rfl,?_⟩;have n0_:=Aside0.mk (Kd.R_mono (Kd.R_keep (IsS55.apart (show IsS55 w _ g488 t486 t497 from by repeat (first|(with_reducible first|exact HI488.out|apply IsS55.alloc|apply IsS55.drewN|apply IsS55.drew|apply IsS55.set_1)|exact HI488.out)) (by (with_reducible repeat (first|apply Kd.R_alloc|apply Kd.R_drewN|apply Kd.R_drew));exact HO495.out) (by decide)) hk (fun _ h=>h.2)) (fun _ h=>h.1));have n1_:=Aside0.mk (hb);have n2_:=Aside0.mk (hi);clear HO495;clear HB;clear HI488;have HO495:=n0_;have HB:=n1_;have HI488:=n2_;clear n0_ n1_ n2_;(try clear hb);(try clear hb2);(try clear hk);(try clear hi)))
   go_loopg [4,5] k (fun kq v4 v5 w'=>∃ (x4_1:ByteArray) (x5_1:Int) (x489001_1:Int),v4 = .string x4_1 ∧ v5 = .int .i64 x5_1 ∧ Aside0 (spec_DrawAddrRead.l0 kq x4_1 x5_1 t486 x489001_1 = some r) ∧ Aside0 (kq ≤ k) ∧ Aside0 (IsS55 w w' g488 t486 x489001_1) ∧ Aside0 (Below w.heap.size w w'))
   case atStart=>exact ⟨((⟨#[47,47]⟩:ByteArray) ++ t496),(t498),(t499),(by first|rfl|(simp;done)|(simp only [i64_w,i32_w];done)|(simp only [i64_w,i32_w];rfl)|(simp [*];done)|(simp [emp_bne,emp_beq];done)),(by first|rfl|(simp;done)|(simp only [i64_w,i32_w];done)|(simp only [i64_w,i32_w];rfl)|(simp [*];done)|(simp [emp_bne,emp_beq];done)),H',⟨Nat.le_refl _⟩,⟨by repeat (first|(with_reducible first|exact HI488.out|apply IsS55.alloc|apply IsS55.drewN|apply IsS55.drew|apply IsS55.set_1)|exact HI488.out)⟩,⟨by repeat (first|(with_reducible first|exact HB.out|apply below_alloc|apply pw_below_drewN|apply below_drew1|refine below_set ?_ (IsS55.ge HI488.out))|exact HB.out)⟩⟩
   case round =>
    clear H'
    try clear c1
    try clear c2
    try clear p2
    try clear c3
    try clear c4
    try clear c4b0
    try clear c4b1
    try clear c10
    try clear c10b0
    try clear c10b1
    try clear c10b2
    try clear c17
    obtain ⟨x4_1,x5_1,x489001_1,rfl,rfl,HA,HK1,HI488,HB⟩:=hrel
    cases gk with
    | zero=>exact absurd HA.out (by simp [spec_DrawAddrRead.l0])
    | succ k1 =>
     have H:=HA.out
     clear HA
     simp only [spec_DrawAddrRead.l0] at H
     by_cases c19:x5_1 > 0
     ·rw [if_pos c19] at H
      have c19b0:decide (0 < x5_1) = true:=decide_eq_true c19
      clear c19
      by_cases c20:x4_1.size + 1 ≤ 9223372036854775807
      ·rw [if_pos c20] at H
       have c20b0:=eq_true c20
       have c20b1:=decide_eq_true c20
       try have c20b2:(9223372036854775807 < x4_1.size + 1) = False:=eq_false (Nat.not_lt.2 c20)
       replace H:=Option.bind_eq_some_iff.mp H
       obtain ⟨⟨t500,t501⟩,A210,H⟩:=H
       replace H:(if (x4_1 ++ (⟨#[47]⟩:ByteArray)).size + t500.size ≤ 9223372036854775807 then (spec_DrawAddrRead.l0 k1 ((x4_1 ++ (⟨#[47]⟩:ByteArray)) ++ t500) (wrap64 (x5_1 - 1)) t486 t501) else (none)) = some r:=H
       have A21:=Aside0.mk A210
       clear A210
       by_cases c22:(x4_1 ++ (⟨#[47]⟩:ByteArray)).size + t500.size ≤ 9223372036854775807
       ·rw [if_pos c22] at H
        have c22b0:=eq_true c22
        have c22b1:=decide_eq_true c22
        try have c22b3:(9223372036854775807 < x4_1.size + 1 + t500.size) = False:=eq_false (Nat.not_lt.2 (by have h_:=c22;simp only [ByteArray.size_append] at h_;exact h_))
        try have c22b2:(9223372036854775807 < (x4_1 ++ (⟨#[47]⟩:ByteArray)).size + t500.size) = False:=eq_false (Nat.not_lt.2 c22)
        have H':=Aside0.mk H
        clear H
        go_wp2_with (first|((with_reducible refine gate_callee (f:=35) rfl ?_);refine goesL_ (some 26) rfl rfl Tryd.func35 (by kernel_rfl) rfl #[.pointer (some ⟨g488,0,none⟩)] rfl (by (try simp only [List.map_toArray,List.map_cons,List.map_nil]);first|done|rfl|(simp only [List.length_drop,List.length_take];rfl)) ?_;(with_reducible refine (spec_l71Part.calls k1 g488 t486 x489001_1 t500 t501 w _ ?side1 ?side2 A21.out).mono ?_);(case side1=>repeat (first|(with_reducible first|exact HI488.out|apply IsS55.alloc|apply IsS55.drewN|apply IsS55.drew|apply IsS55.set_1)|exact HI488.out));(case side2=>repeat (first|(with_reducible first|exact HB.out|apply below_alloc|apply pw_below_drewN|apply below_drew1|refine below_set ?_ (IsS55.ge HI488.out))|exact HB.out));rintro e w23 ⟨rfl,hi,hb,hk⟩;refine ⟨_,rfl,?_⟩;have n0_:=Aside0.mk (hb);have n1_:=Aside0.mk (hi);clear HB;clear HI488;have HB:=n0_;have HI488:=n1_;clear n0_ n1_;(try clear hb);(try clear hb2);(try clear hk);(try clear hi)))
        go_roundg k1
        case measure=>have:=HK1.out;omega
        case rel=>exact ⟨((x4_1 ++ (⟨#[47]⟩:ByteArray)) ++ t500),(wrap64 (x5_1 - 1)),(t501),(by first|rfl|(simp;done)|(simp only [i64_w,i32_w];done)|(simp only [i64_w,i32_w];rfl)|(simp [*];done)|(simp [emp_bne,emp_beq];done)),(by first|rfl|(simp;done)|(simp only [i64_w,i32_w];done)|(simp only [i64_w,i32_w];rfl)|(simp [*];done)|(simp [emp_bne,emp_beq];done)),H',⟨by have:=HK1.out;omega⟩,⟨by repeat (first|(with_reducible first|exact HI488.out|apply IsS55.alloc|apply IsS55.drewN|apply IsS55.drew|apply IsS55.set_1)|exact HI488.out)⟩,⟨by repeat (first|(with_reducible first|exact HB.out|apply below_alloc|apply pw_below_drewN|apply below_drew1|refine below_set ?_ (IsS55.ge HI488.out))|exact HB.out)⟩⟩
       ·rw [if_neg c22] at H
        exact absurd H (by simp)
      ·rw [if_neg c20] at H
       exact absurd H (by simp)
     ·rw [if_neg c19] at H
      have c19b0:decide (0 < x5_1) = false:=decide_eq_false c19
      clear c19
      obtain ⟨y502,hy502⟩:∃ y_:List ByteArray,y_ = (([(⟨#[]⟩:ByteArray),(⟨#[]⟩:ByteArray),(⟨#[47]⟩:ByteArray),(⟨#[63,97]⟩:ByteArray),(⟨#[63,37,54,49,61,98]⟩:ByteArray),(⟨#[35,120]⟩:ByteArray),(⟨#[63,97,63,98]⟩:ByteArray),(⟨#[63,97,35,98]⟩:ByteArray)]:List ByteArray)):=⟨_,rfl⟩
      replace H:((spec_l6Rd_of.f k1 t486 x489001_1 y502).bind fun bt505=>(if x4_1.size + bt505.1.size ≤ 9223372036854775807 then (some (x4_1 ++ bt505.1)) else (none))) = some r:=by first|(rw [hy502];with_reducible exact H)|(have H2_:=(Option.bind_some _ _).symm.trans H;rw [hy502];with_reducible exact H2_)|(have H2_:=(Option.bind_some _ _).symm.trans H;with_reducible exact H2_)|with_reducible exact H|(rw [hy502];exact H)|exact H
      have Ny502:=Aside0.mk hy502
      clear hy502
      replace H:=Option.bind_eq_some_iff.mp H
      obtain ⟨⟨t505,t506⟩,A240,H⟩:=H
      replace H:(if x4_1.size + t505.size ≤ 9223372036854775807 then (some (x4_1 ++ t505)) else (none)) = some r:=H
      have A24:=Aside0.mk A240
      clear A240
      by_cases c25:x4_1.size + t505.size ≤ 9223372036854775807
      ·rw [if_pos c25] at H
       have c25b0:=eq_true c25
       have c25b1:=decide_eq_true c25
       try have c25b2:(9223372036854775807 < x4_1.size + t505.size) = False:=eq_false (Nat.not_lt.2 c25)
       obtain rfl:=Option.some.inj H
       go_wp2_with (first|((with_reducible refine gate_dst (N:=30) rfl ?_);refine Kd.R_lit Kd.string _ 9 ?hg (N:=30) ?hd (xs:=([(⟨#[]⟩:ByteArray),(⟨#[]⟩:ByteArray),(⟨#[47]⟩:ByteArray),(⟨#[63,97]⟩:ByteArray),(⟨#[63,37,54,49,61,98]⟩:ByteArray),(⟨#[35,120]⟩:ByteArray),(⟨#[63,97,63,98]⟩:ByteArray),(⟨#[63,97,35,98]⟩:ByteArray)]:List ByteArray)) (inner:=[.string (⟨#[]⟩:ByteArray), .string (⟨#[]⟩:ByteArray), .string (⟨#[47]⟩:ByteArray), .string (⟨#[63,97]⟩:ByteArray), .string (⟨#[63,37,54,49,61,98]⟩:ByteArray), .string (⟨#[35,120]⟩:ByteArray), .string (⟨#[63,97,63,98]⟩:ByteArray), .string (⟨#[63,97,35,98]⟩:ByteArray)]) (ok:=fun _=>True) (okp:=fun _=>True) ?hr ?hp (fun _ hk=>hk) trivial (Below.refl _ _) (Nat.le_refl _) (by simp) ?_;(case hd=>rfl);(case hg=>rfl);(case hr=>first|(go_simp;done)|(go_simp;rfl));(case hp=>exact (Reps.one (show Kd.M Kd.string _ _ _ (⟨#[]⟩:ByteArray) [.string (⟨#[]⟩:ByteArray)] from rfl) (Reps.one (show Kd.M Kd.string _ _ _ (⟨#[]⟩:ByteArray) [.string (⟨#[]⟩:ByteArray)] from rfl) (Reps.one (show Kd.M Kd.string _ _ _ (⟨#[47]⟩:ByteArray) [.string (⟨#[47]⟩:ByteArray)] from rfl) (Reps.one (show Kd.M Kd.string _ _ _ (⟨#[63,97]⟩:ByteArray) [.string (⟨#[63,97]⟩:ByteArray)] from rfl) (Reps.one (show Kd.M Kd.string _ _ _ (⟨#[63,37,54,49,61,98]⟩:ByteArray) [.string (⟨#[63,37,54,49,61,98]⟩:ByteArray)] from rfl) (Reps.one (show Kd.M Kd.string _ _ _ (⟨#[35,120]⟩:ByteArray) [.string (⟨#[35,120]⟩:ByteArray)] from rfl) (Reps.one (show Kd.M Kd.string _ _ _ (⟨#[63,97,63,98]⟩:ByteArray) [.string (⟨#[63,97,63,98]⟩:ByteArray)] from rfl) (Reps.one (show Kd.M Kd.string _ _ _ (⟨#[63,97,35,98]⟩:ByteArray) [.string (⟨#[63,97,35,98]⟩:ByteArray)] from rfl) (Reps.none _ _))))))))));intro v503 w26 ho27 hb hg_ hnew_;clear hg_ hnew_;(first|rw [← Ny502.out] at ho27|(simp only [Int.reduceToNat] at ho27;rw [← Ny502.out] at ho27));have n0_:=Aside0.mk (Kd.R_lower ho27 (below_size (by repeat (first|(with_reducible first|exact HB.out|apply below_alloc|apply pw_below_drewN|apply below_drew1|refine below_set ?_ (IsS55.ge HI488.out))|exact HB.out))));have n1_:=Aside0.mk (IsS55.below (by repeat (first|(with_reducible first|exact HI488.out|apply IsS55.alloc|apply IsS55.drewN|apply IsS55.drew|apply IsS55.set_1)|exact HI488.out)) hb);have n2_:=Aside0.mk (below_step (by repeat (first|(with_reducible first|exact HB.out|apply below_alloc|apply pw_below_drewN|apply below_drew1|refine below_set ?_ (IsS55.ge HI488.out))|exact HB.out)) hb);clear HI488;clear HB;have HO504:=n0_;have HI488:=n1_;have HB:=n2_;clear n0_ n1_ n2_;clear hb ho27;obtain ⟨Ao28,co28,eo28⟩:=Kd.R_slice HO504.out;subst eo28)|((with_reducible refine gate_callee (f:=34) rfl ?_);refine goesL_ (some 31) rfl rfl Tryd.func34 (by kernel_rfl) rfl #[.pointer (some ⟨g488,0,none⟩), .slice Ao28 y502.length co28] rfl (by (try simp only [List.map_toArray,List.map_cons,List.map_nil]);first|done|rfl|(simp only [List.length_drop,List.length_take];rfl)) ?_;(with_reducible refine (spec_l6Rd_of.calls k1 g488 t486 x489001_1 _ _ y502 t505 t506 w _ ?side1 ?side2 ?side3 ?side4 ?side5 A24.out).mono ?_);(case side1=>repeat (first|(with_reducible first|exact HI488.out|apply IsS55.alloc|apply IsS55.drewN|apply IsS55.drew|apply IsS55.set_1)|exact HI488.out));(case side2=>repeat (first|(with_reducible first|exact HB.out|apply below_alloc|apply pw_below_drewN|apply below_drew1|refine below_set ?_ (IsS55.ge HI488.out))|exact HB.out));(case side3=>repeat (first|exact (Kd.R_reads' HO504.out).2.2|(with_reducible refine Kd.C_alloc ?_ _)|(with_reducible refine Kd.C_drewN ?_ _)|(with_reducible refine Kd.C_drew ?_)));(case side4=>exact (Kd.R_reads' HO504.out).2.1);(case side5=>exact far_slice (IsS55.own_ne HI488.out HO504.out (by decide)));rintro e w29 ⟨rfl,hi,hb,hk⟩;refine ⟨_,rfl,?_⟩;have n0_:=Aside0.mk (Kd.R_mono (Kd.R_keep (IsS55.apart (show IsS55 w _ g488 t486 x489001_1 from by repeat (first|(with_reducible first|exact HI488.out|apply IsS55.alloc|apply IsS55.drewN|apply IsS55.drew|apply IsS55.set_1)|exact HI488.out)) (by (with_reducible repeat (first|apply Kd.R_alloc|apply Kd.R_drewN|apply Kd.R_drew));exact HO504.out) (by decide)) hk (fun _ h=>h.2)) (fun _ h=>h.1));have n1_:=Aside0.mk (hb);have n2_:=Aside0.mk (hi);clear HO504;clear HB;clear HI488;have HO504:=n0_;have HB:=n1_;have HI488:=n2_;clear n0_ n1_ n2_;(try clear hb);(try clear hb2);(try clear hk);(try clear hi)))
       go_ret
       exact ⟨by first|rfl|(simp <;> rfl)|(simp [*] <;> rfl),by repeat (first|(with_reducible first|exact HB.out|apply below_alloc|apply pw_below_drewN|apply below_drew1|refine below_set ?_ (IsS55.ge HI488.out))|exact HB.out)⟩
      ·rw [if_neg c25] at H
       exact absurd H (by simp)
  ·rw [if_neg c10] at H
   exact absurd H (by simp)

end Go.Proofs.YtochmlkladpfgaaDoor.P
