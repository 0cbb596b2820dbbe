-- Written by a program of this session (patch_print.py over the kit's print; given texts in wip/given).
-- Cut down by a program of this session (wip/tools/prune.py) to what its claim can name.
import Derived.Test.YtochmlkladpfgaaDoorPx0
import Derived.Test.YtochmlkladpfgaaDoorPx1
import Derived.Test.YtochmlkladpfgaaDoorPx2
namespace Go.Proofs.YtochmlkladpfgaaDoor.P
open Go.RowKit Go.Proofs.YtochmlkladpfgaaDoorW.PrintWords Go.Proofs.YtochmlkladpfgaaDoorW.PrintLast Go.Proofs.YtochmlkladpfgaaDoorW.PrintMore
attribute [local go_sem] max2_int min2_int max_two min_two max_three min_three max_four min_four   -- for this text's walks alone
set_option linter.unusedVariables false
set_option linter.unusedSimpArgs false
set_option maxHeartbeats 8000000
set_option maxRecDepth 100000

/-! ### spec_l71Ref: function 33 -/
def spec_l71Ref.j0:Nat → Int → Bool → List Int → Int → Option (ByteArray × Int)
 | 0,_,_,_,_=>none
 | k + 1,x4,x5,x1000,x1001=>if x5 = true then ((spec_l71Addr.f k x1000 x1001).bind fun bt170=>(some (bt170.1,bt170.2))) else (if x4 = 2 then ((spec_l6Rd_of.f k x1000 x1001 (([(⟨#[97]⟩:ByteArray),(⟨#[98]⟩:ByteArray),(⟨#[97,47,98]⟩:ByteArray),(⟨#[99,47,46,46,47,98]⟩:ByteArray),(⟨#[]⟩:ByteArray),(⟨#[120,47,46,47,99]⟩:ByteArray)]:List ByteArray))).bind fun bt175=>(if 1 + bt175.1.size ≤ 9223372036854775807 then (some ((⟨#[47]⟩:ByteArray) ++ bt175.1,bt175.2)) else (none))) else (if x4 = 3 then ((spec_l6Rd_of.f k x1000 x1001 (([(⟨#[46,46]⟩:ByteArray),(⟨#[46,46,47,99]⟩:ByteArray),(⟨#[46,46,47,46,46,47,46,46]⟩:ByteArray),(⟨#[46]⟩:ByteArray),(⟨#[46,47,97]⟩:ByteArray)]:List ByteArray))).bind fun bt180=>(some (bt180.1,bt180.2))) else (if x4 = 4 then ((spec_l6Rd_of.f k x1000 x1001 (([(⟨#[63,97]⟩:ByteArray),(⟨#[63]⟩:ByteArray),(⟨#[35,116,111,112]⟩:ByteArray),(⟨#[]⟩:ByteArray),(⟨#[97,35,98]⟩:ByteArray),(⟨#[98,63,97]⟩:ByteArray)]:List ByteArray))).bind fun bt185=>(some (bt185.1,bt185.2))) else (if x4 = 5 then ((spec_l6Rd_of.f k x1000 x1001 (([(⟨#[47,47,65,66,47,97]⟩:ByteArray),(⟨#[47,47,99,100]⟩:ByteArray),(⟨#[47,47,99,100,63,120]⟩:ByteArray),(⟨#[47,47,97,98,47,37,54,49]⟩:ByteArray),(⟨#[47,47,116,111,111,108,111,110,103,47,97]⟩:ByteArray),(⟨#[47,47,97,49,47,98]⟩:ByteArray),(⟨#[47,47,47,97]⟩:ByteArray)]:List ByteArray))).bind fun bt190=>(some (bt190.1,bt190.2))) else ((spec_l6Rd_of.f k x1000 x1001 (([(⟨#[97]⟩:ByteArray),(⟨#[98]⟩:ByteArray),(⟨#[99]⟩:ByteArray),(⟨#[97,47,98]⟩:ByteArray)]:List ByteArray))).bind fun bt195=>(some (bt195.1,bt195.2)))))))
def spec_l71Ref.f (k:Nat) (s0_0:List Int) (s0_1:Int):Option (ByteArray × Int):=(spec_l6Rd_pick.f k s0_0 s0_1 8).bind fun bt168=>(if bt168.1 = 0 then (spec_l71Ref.j0 k bt168.1 (bt168.1 == 0) s0_0 bt168.2) else (spec_l71Ref.j0 k bt168.1 (bt168.1 == 1) s0_0 bt168.2))
theorem spec_l71Ref.mono_l:∀ k,(∀ y0 y1 y2 y3,LeO (spec_l71Ref.j0 k y0 y1 y2 y3) (spec_l71Ref.j0 (k + 1) y0 y1 y2 y3))
 | 0=>fun _ _ _ _ r h=>by simp [spec_l71Ref.j0] at h
 | k + 1=>by
  have ih0:=spec_l71Ref.mono_l k
  ·intro y0 y1 y2 y3
   unfold spec_l71Ref.j0
   repeat' first
   | (with_reducible exact ih0 _ _ _ _)
   | (with_reducible exact spec_l6Rd_of.mono _ _ _ _)
   | (with_reducible exact spec_l6Rd_pick.mono _ _ _ _)
   | (with_reducible exact spec_l71Addr.mono _ _ _)
   | (with_reducible exact LeO.refl _)
   | (with_reducible exact LeO.none _)
   | (with_reducible refine LeO.ite ?_ ?_)
   | (with_reducible refine LeO.bind ?_ (fun _=>?_))
   | exact ih0 _ _ _ _
   | exact spec_l6Rd_of.mono _ _ _ _
   | exact spec_l6Rd_pick.mono _ _ _ _
   | exact spec_l71Addr.mono _ _ _
   | exact LeO.none _
   | refine LeO.ite ?_ ?_
   | refine LeO.bind ?_ (fun _=>?_)
theorem spec_l71Ref.mono:∀ a0 a1 k,LeO (spec_l71Ref.f k a0 a1) (spec_l71Ref.f (k + 1) a0 a1):=by
 intro a0 a1 k
 have ih0:=spec_l71Ref.mono_l k
 unfold spec_l71Ref.f
 repeat' first
   | (with_reducible exact ih0 _ _ _ _)
   | (with_reducible exact spec_l6Rd_of.mono _ _ _ _)
   | (with_reducible exact spec_l6Rd_pick.mono _ _ _ _)
   | (with_reducible exact spec_l71Addr.mono _ _ _)
   | (with_reducible exact LeO.refl _)
   | (with_reducible exact LeO.none _)
   | (with_reducible refine LeO.ite ?_ ?_)
   | (with_reducible refine LeO.bind ?_ (fun _=>?_))
   | exact ih0 _ _ _ _
   | exact spec_l6Rd_of.mono _ _ _ _
   | exact spec_l6Rd_pick.mono _ _ _ _
   | exact spec_l71Addr.mono _ _ _
   | exact LeO.none _
   | refine LeO.ite ?_ ?_
   | refine LeO.bind ?_ (fun _=>?_)
theorem spec_l71Ref.calls (k:Nat) (g:Nat) (s0_0:List Int) (s0_1:Int) (r1:ByteArray) (r2:Int) (w0 w:World) (hI:IsS55 w0 w g s0_0 s0_1) (hB:Below w0.heap.size w0 w) (h:spec_l71Ref.f k s0_0 s0_1 = some (r1,r2)) :
  Calls Tryd.prog 33 #[.pointer (some ⟨g,0,none⟩)] w fun e w'=>e = .returned (.string r1) ∧ IsS55 w0 w' g s0_0 r2 ∧ Below w0.heap.size w0 w' ∧ KeepBut w w' g none:=by
 have HI0:=Aside0.mk hI
 have HK:=Aside0.mk (KeepBut.refl w g none)
 have HL:=Aside0.mk hB.size
 clear hI
 have HW0:=Aside0.mk hB.size
 have HB:=Aside0.mk hB
 clear hB
 have H:((spec_l6Rd_pick.f k s0_0 s0_1 8).bind fun bt168=>(if bt168.1 = 0 then (spec_l71Ref.j0 k bt168.1 (bt168.1 == 0) s0_0 bt168.2) else (spec_l71Ref.j0 k bt168.1 (bt168.1 == 1) s0_0 bt168.2))) = some (r1,r2):=h
 clear h
 replace H:=Option.bind_eq_some_iff.mp H
 obtain ⟨⟨t168,t169⟩,A20,H⟩:=H
 replace H:(if t168 = 0 then (spec_l71Ref.j0 k t168 (t168 == 0) s0_0 t169) else (spec_l71Ref.j0 k t168 (t168 == 1) s0_0 t169)) = some (r1,r2):=H
 have A2:=Aside0.mk A20
 clear A20
 have HC3:=Aside0.mk H
 clear H
 go_enter Tryd.func33,Tryd.ntmps33
 go_upto_if 5 with (first|((with_reducible refine gate_callee (f:=32) rfl ?_);refine goesL_ (some 4) rfl rfl Tryd.func32 (by kernel_rfl) rfl #[.pointer (some ⟨g,0,none⟩), .int .i64 8] rfl (by (try simp only [List.map_toArray,List.map_cons,List.map_nil]);first|done|rfl|(simp only [List.length_drop,List.length_take];rfl)) ?_;(with_reducible refine (spec_l6Rd_pick.calls k g s0_0 s0_1 8 t168 t169 w0 _ ?side1 ?side2 A2.out).mono ?_);(case side1=>repeat (first|(with_reducible first|exact HI0.out|apply IsS55.alloc|apply IsS55.drewN|apply IsS55.drew|apply IsS55.set_1)|exact HI0.out));(case side2=>repeat (first|(with_reducible first|exact HB.out|apply below_alloc|apply pw_below_drewN|apply below_drew1|refine below_set ?_ (IsS55.ge HI0.out))|exact HB.out));rintro e w4 ⟨rfl,hi,hb,hk⟩;refine ⟨_,rfl,?_⟩;have n0_:=Aside0.mk (KeepBut.trans (by repeat (first|(with_reducible first|exact HK.out|apply KeepBut.set_|apply keep_drewN|apply keep_drew|apply keep_alloc)|exact HK.out)) hk (.inl rfl));have n1_:=Aside0.mk (hb);have n2_:=Aside0.mk (hi);clear HK;clear HB;clear HI0;have HK:=n0_;have HB:=n1_;have HI0:=n2_;clear n0_ n1_ n2_;(try clear hb);(try clear hb2);(try clear hk);(try clear hi)))
 (try simp only [Act.put,List.setIfInBounds_toArray,List.set_cons_zero,List.set_cons_succ])
 go_cut [5] (fun v5 wc=>∃ (kq:Nat) (x5_2:Bool),v5 = .bool x5_2 ∧ Aside0 (spec_l71Ref.j0 kq t168 x5_2 s0_0 t169 = some (r1,r2)) ∧ Aside0 (kq ≤ k) ∧ Aside0 (IsS55 w0 wc g s0_0 t169) ∧ Aside0 (KeepBut w wc g none) ∧ Aside0 (Below w0.heap.size w0 wc))
 case first =>
  have H:=HC3.out
  clear HC3
  by_cases c5:t168 = 0
  ·rw [if_pos c5] at H
   have c5b0:(t168 == 0) = true:=beq_iff_eq.mpr c5
   have c5b1:(t168 != 0) = false:=bne_eq_false_iff_eq.mpr c5
   clear c5
   (first|rw [c5b0]|(simp only [i64_w,i32_w];rw [c5b0])|skip)
   have H':=Aside0.mk H
   clear H
   go_wp2
   go_meet
   case rel=>exact ⟨_,((t168 == 0)),(by first|rfl|(simp;done)|(simp only [i64_w,i32_w];done)|(simp only [i64_w,i32_w];rfl)|(simp [*];done)|(simp [emp_bne,emp_beq];done)),H',⟨by first|omega|exact Nat.le_refl _⟩,⟨by repeat (first|(with_reducible first|exact HI0.out|apply IsS55.alloc|apply IsS55.drewN|apply IsS55.drew|apply IsS55.set_1)|exact HI0.out)⟩,⟨by repeat (first|(with_reducible first|exact HK.out|apply KeepBut.set_|apply keep_drewN|apply keep_drew|apply keep_alloc)|exact HK.out)⟩,⟨by repeat (first|(with_reducible first|exact HB.out|apply below_alloc|apply pw_below_drewN|apply below_drew1|refine below_set ?_ (IsS55.ge HI0.out))|exact HB.out)⟩⟩
  ·rw [if_neg c5] at H
   have c5b0:(t168 == 0) = false:=beq_eq_false_iff_ne.mpr c5
   have c5b1:(t168 != 0) = true:=bne_iff_ne.mpr c5
   (first|rw [c5b0]|(simp only [i64_w,i32_w];rw [c5b0])|skip)
   have H':=Aside0.mk H
   clear H
   go_wp2
   go_meet
   case rel=>exact ⟨_,((t168 == 1)),(by first|rfl|(simp;done)|(simp only [i64_w,i32_w];done)|(simp only [i64_w,i32_w];rfl)|(simp [*];done)|(simp [emp_bne,emp_beq];done)),H',⟨by first|omega|exact Nat.le_refl _⟩,⟨by repeat (first|(with_reducible first|exact HI0.out|apply IsS55.alloc|apply IsS55.drewN|apply IsS55.drew|apply IsS55.set_1)|exact HI0.out)⟩,⟨by repeat (first|(with_reducible first|exact HK.out|apply KeepBut.set_|apply keep_drewN|apply keep_drew|apply keep_alloc)|exact HK.out)⟩,⟨by repeat (first|(with_reducible first|exact HB.out|apply below_alloc|apply pw_below_drewN|apply below_drew1|refine below_set ?_ (IsS55.ge HI0.out))|exact HB.out)⟩⟩
 case rest =>
  clear HC3
  try clear p2
  try clear c3
  try clear c5
  try clear c5b0
  try clear c5b1
  obtain ⟨kq,x5_2,rfl,HA,HJ2,HI0,HK,HB⟩:=hcut
  cases kq with
  | zero=>exact absurd HA.out (by simp [spec_l71Ref.j0])
  | succ kj2 =>
   have H:=HA.out
   clear HA
   simp only [spec_l71Ref.j0] at H
   by_cases c6:x5_2 = true
   ·subst c6
    have H1:((spec_l71Addr.f kj2 s0_0 t169).bind fun bt170=>(some (bt170.1,bt170.2))) = some (r1,r2):=by rw [if_pos rfl] at H;exact H
    clear H
    have H:=H1
    clear H1
    replace H:=Option.bind_eq_some_iff.mp H
    obtain ⟨⟨t170,t171⟩,A70,H⟩:=H
    replace H:(some (t170,t171)) = some (r1,r2):=H
    have A7:=Aside0.mk A70
    clear A70
    simp only [Option.some.injEq,Prod.mk.injEq] at H
    obtain ⟨rfl,rfl⟩:=H
    go_wp2_with (first|((with_reducible refine gate_callee (f:=46) rfl ?_);refine goesL_ (some 9) rfl rfl Tryd.func46 (by kernel_rfl) rfl #[.pointer (some ⟨g,0,none⟩)] rfl (by (try simp only [List.map_toArray,List.map_cons,List.map_nil]);first|done|rfl|(simp only [List.length_drop,List.length_take];rfl)) ?_;(with_reducible refine (spec_l71Addr.calls kj2 g s0_0 t169 t170 t171 w0 _ ?side1 ?side2 A7.out).mono ?_);(case side1=>repeat (first|(with_reducible first|exact HI0.out|apply IsS55.alloc|apply IsS55.drewN|apply IsS55.drew|apply IsS55.set_1)|exact HI0.out));(case side2=>repeat (first|(with_reducible first|exact HB.out|apply below_alloc|apply pw_below_drewN|apply below_drew1|refine below_set ?_ (IsS55.ge HI0.out))|exact HB.out));rintro e w8 ⟨rfl,hi,hb,hk⟩;refine ⟨_,rfl,?_⟩;have n0_:=Aside0.mk (KeepBut.trans (by repeat (first|(with_reducible first|exact HK.out|apply KeepBut.set_|apply keep_drewN|apply keep_drew|apply keep_alloc)|exact HK.out)) hk (.inl rfl));have n1_:=Aside0.mk (hb);have n2_:=Aside0.mk (hi);clear HK;clear HB;clear HI0;have HK:=n0_;have HB:=n1_;have HI0:=n2_;clear n0_ n1_ n2_;(try clear hb);(try clear hb2);(try clear hk);(try clear hi)))
    go_ret
    exact ⟨by first|rfl|(simp <;> rfl)|(simp [*] <;> rfl),by repeat (first|(with_reducible first|exact HI0.out|apply IsS55.alloc|apply IsS55.drewN|apply IsS55.drew|apply IsS55.set_1)|exact HI0.out),by repeat (first|(with_reducible first|exact HB.out|apply below_alloc|apply pw_below_drewN|apply below_drew1|refine below_set ?_ (IsS55.ge HI0.out))|exact HB.out),by repeat (first|(with_reducible first|exact HK.out|apply KeepBut.set_|apply keep_drewN|apply keep_drew|apply keep_alloc)|exact HK.out)⟩
   ·replace c6:=Bool.eq_false_iff.mpr c6
    subst c6
    have H1:(if t168 = 2 then ((spec_l6Rd_of.f kj2 s0_0 t169 (([(⟨#[97]⟩:ByteArray),(⟨#[98]⟩:ByteArray),(⟨#[97,47,98]⟩:ByteArray),(⟨#[99,47,46,46,47,98]⟩:ByteArray),(⟨#[]⟩:ByteArray),(⟨#[120,47,46,47,99]⟩:ByteArray)]:List ByteArray))).bind fun bt175=>(if 1 + bt175.1.size ≤ 9223372036854775807 then (some ((⟨#[47]⟩:ByteArray) ++ bt175.1,bt175.2)) else (none))) else (if t168 = 3 then ((spec_l6Rd_of.f kj2 s0_0 t169 (([(⟨#[46,46]⟩:ByteArray),(⟨#[46,46,47,99]⟩:ByteArray),(⟨#[46,46,47,46,46,47,46,46]⟩:ByteArray),(⟨#[46]⟩:ByteArray),(⟨#[46,47,97]⟩:ByteArray)]:List ByteArray))).bind fun bt180=>(some (bt180.1,bt180.2))) else (if t168 = 4 then ((spec_l6Rd_of.f kj2 s0_0 t169 (([(⟨#[63,97]⟩:ByteArray),(⟨#[63]⟩:ByteArray),(⟨#[35,116,111,112]⟩:ByteArray),(⟨#[]⟩:ByteArray),(⟨#[97,35,98]⟩:ByteArray),(⟨#[98,63,97]⟩:ByteArray)]:List ByteArray))).bind fun bt185=>(some (bt185.1,bt185.2))) else (if t168 = 5 then ((spec_l6Rd_of.f kj2 s0_0 t169 (([(⟨#[47,47,65,66,47,97]⟩:ByteArray),(⟨#[47,47,99,100]⟩:ByteArray),(⟨#[47,47,99,100,63,120]⟩:ByteArray),(⟨#[47,47,97,98,47,37,54,49]⟩:ByteArray),(⟨#[47,47,116,111,111,108,111,110,103,47,97]⟩:ByteArray),(⟨#[47,47,97,49,47,98]⟩:ByteArray),(⟨#[47,47,47,97]⟩:ByteArray)]:List ByteArray))).bind fun bt190=>(some (bt190.1,bt190.2))) else ((spec_l6Rd_of.f kj2 s0_0 t169 (([(⟨#[97]⟩:ByteArray),(⟨#[98]⟩:ByteArray),(⟨#[99]⟩:ByteArray),(⟨#[97,47,98]⟩:ByteArray)]:List ByteArray))).bind fun bt195=>(some (bt195.1,bt195.2))))))) = some (r1,r2):=by rw [if_neg (show ¬ (false = true) by decide)] at H;exact H
    clear H
    have H:=H1
    clear H1
    by_cases c9:t168 = 2
    ·rw [if_pos c9] at H
     have c9b0:(t168 == 2) = true:=beq_iff_eq.mpr c9
     have c9b1:(t168 != 2) = false:=bne_eq_false_iff_eq.mpr c9
     clear c9
     obtain ⟨y172,hy172⟩:∃ y_:List ByteArray,y_ = (([(⟨#[97]⟩:ByteArray),(⟨#[98]⟩:ByteArray),(⟨#[97,47,98]⟩:ByteArray),(⟨#[99,47,46,46,47,98]⟩:ByteArray),(⟨#[]⟩:ByteArray),(⟨#[120,47,46,47,99]⟩:ByteArray)]:List ByteArray)):=⟨_,rfl⟩
     replace H:((spec_l6Rd_of.f kj2 s0_0 t169 y172).bind fun bt175=>(if 1 + bt175.1.size ≤ 9223372036854775807 then (some ((⟨#[47]⟩:ByteArray) ++ bt175.1,bt175.2)) else (none))) = some (r1,r2):=by first|(rw [hy172];with_reducible exact H)|(have H2_:=(Option.bind_some _ _).symm.trans H;rw [hy172];with_reducible exact H2_)|(have H2_:=(Option.bind_some _ _).symm.trans H;with_reducible exact H2_)|with_reducible exact H|(rw [hy172];exact H)|exact H
     have Ny172:=Aside0.mk hy172
     clear hy172
     replace H:=Option.bind_eq_some_iff.mp H
     obtain ⟨⟨t175,t176⟩,A100,H⟩:=H
     replace H:(if 1 + t175.size ≤ 9223372036854775807 then (some ((⟨#[47]⟩:ByteArray) ++ t175,t176)) else (none)) = some (r1,r2):=H
     have A10:=Aside0.mk A100
     clear A100
     by_cases c11:1 + t175.size ≤ 9223372036854775807
     ·rw [if_pos c11] at H
      have c11b0:=eq_true c11
      have c11b1:=decide_eq_true c11
      try have c11b2:(9223372036854775807 < 1 + t175.size) = False:=eq_false (Nat.not_lt.2 c11)
      simp only [Option.some.injEq,Prod.mk.injEq] at H
      obtain ⟨rfl,rfl⟩:=H
      go_wp2_with (first|((with_reducible refine gate_dst (N:=13) rfl ?_);refine Kd.R_lit Kd.string _ 9 ?hg (N:=13) ?hd (xs:=([(⟨#[97]⟩:ByteArray),(⟨#[98]⟩:ByteArray),(⟨#[97,47,98]⟩:ByteArray),(⟨#[99,47,46,46,47,98]⟩:ByteArray),(⟨#[]⟩:ByteArray),(⟨#[120,47,46,47,99]⟩:ByteArray)]:List ByteArray)) (inner:=[.string (⟨#[97]⟩:ByteArray), .string (⟨#[98]⟩:ByteArray), .string (⟨#[97,47,98]⟩:ByteArray), .string (⟨#[99,47,46,46,47,98]⟩:ByteArray), .string (⟨#[]⟩:ByteArray), .string (⟨#[120,47,46,47,99]⟩:ByteArray)]) (ok:=fun _=>True) (okp:=fun _=>True) ?hr ?hp (fun _ hk=>hk) trivial (Below.refl _ _) (Nat.le_refl _) (by simp) ?_;(case hd=>rfl);(case hg=>rfl);(case hr=>first|(go_simp;done)|(go_simp;rfl));(case hp=>exact (Reps.one (show Kd.M Kd.string _ _ _ (⟨#[97]⟩:ByteArray) [.string (⟨#[97]⟩:ByteArray)] from rfl) (Reps.one (show Kd.M Kd.string _ _ _ (⟨#[98]⟩:ByteArray) [.string (⟨#[98]⟩:ByteArray)] from rfl) (Reps.one (show Kd.M Kd.string _ _ _ (⟨#[97,47,98]⟩:ByteArray) [.string (⟨#[97,47,98]⟩:ByteArray)] from rfl) (Reps.one (show Kd.M Kd.string _ _ _ (⟨#[99,47,46,46,47,98]⟩:ByteArray) [.string (⟨#[99,47,46,46,47,98]⟩:ByteArray)] from rfl) (Reps.one (show Kd.M Kd.string _ _ _ (⟨#[]⟩:ByteArray) [.string (⟨#[]⟩:ByteArray)] from rfl) (Reps.one (show Kd.M Kd.string _ _ _ (⟨#[120,47,46,47,99]⟩:ByteArray) [.string (⟨#[120,47,46,47,99]⟩:ByteArray)] from rfl) (Reps.none _ _))))))));intro v173 w12 ho13 hb hg_ hnew_;clear hg_ hnew_;(first|rw [← Ny172.out] at ho13|(simp only [Int.reduceToNat] at ho13;rw [← Ny172.out] at ho13));have n0_:=Aside0.mk (Kd.R_lower ho13 (keep_size (w:=w) (g:=g) (row:=none) (by repeat (first|(with_reducible first|exact HK.out|apply KeepBut.set_|apply keep_drewN|apply keep_drew|apply keep_alloc)|exact HK.out))));have n1_:=Aside0.mk (IsS55.below (by repeat (first|(with_reducible first|exact HI0.out|apply IsS55.alloc|apply IsS55.drewN|apply IsS55.drew|apply IsS55.set_1)|exact HI0.out)) hb);have n2_:=Aside0.mk (KeepBut.trans (by repeat (first|(with_reducible first|exact HK.out|apply KeepBut.set_|apply keep_drewN|apply keep_drew|apply keep_alloc)|exact HK.out)) (KeepBut.of_below hb g none) (.inl rfl));have n3_:=Aside0.mk (below_step (by repeat (first|(with_reducible first|exact HB.out|apply below_alloc|apply pw_below_drewN|apply below_drew1|refine below_set ?_ (IsS55.ge HI0.out))|exact HB.out)) hb);clear HI0;clear HK;clear HB;have HO174:=n0_;have HI0:=n1_;have HK:=n2_;have HB:=n3_;clear n0_ n1_ n2_ n3_;clear hb ho13;obtain ⟨Ao14,co14,eo14⟩:=Kd.R_slice HO174.out;subst eo14)|((with_reducible refine gate_callee (f:=34) rfl ?_);refine goesL_ (some 14) rfl rfl Tryd.func34 (by kernel_rfl) rfl #[.pointer (some ⟨g,0,none⟩), .slice Ao14 y172.length co14] rfl (by (try simp only [List.map_toArray,List.map_cons,List.map_nil]);first|done|rfl|(simp only [List.length_drop,List.length_take];rfl)) ?_;(with_reducible refine (spec_l6Rd_of.calls kj2 g s0_0 t169 _ _ y172 t175 t176 w0 _ ?side1 ?side2 ?side3 ?side4 ?side5 A10.out).mono ?_);(case side1=>repeat (first|(with_reducible first|exact HI0.out|apply IsS55.alloc|apply IsS55.drewN|apply IsS55.drew|apply IsS55.set_1)|exact HI0.out));(case side2=>repeat (first|(with_reducible first|exact HB.out|apply below_alloc|apply pw_below_drewN|apply below_drew1|refine below_set ?_ (IsS55.ge HI0.out))|exact HB.out));(case side3=>repeat (first|exact (Kd.R_reads' HO174.out).2.2|(with_reducible refine Kd.C_alloc ?_ _)|(with_reducible refine Kd.C_drewN ?_ _)|(with_reducible refine Kd.C_drew ?_)));(case side4=>exact (Kd.R_reads' HO174.out).2.1);(case side5=>exact far_slice (IsS55.own_ne HI0.out HO174.out (by decide)));rintro e w15 ⟨rfl,hi,hb,hk⟩;refine ⟨_,rfl,?_⟩;have n0_:=Aside0.mk (Kd.R_mono (Kd.R_keep (IsS55.apart (show IsS55 w0 _ g s0_0 t169 from by repeat (first|(with_reducible first|exact HI0.out|apply IsS55.alloc|apply IsS55.drewN|apply IsS55.drew|apply IsS55.set_1)|exact HI0.out)) (by (with_reducible repeat (first|apply Kd.R_alloc|apply Kd.R_drewN|apply Kd.R_drew));exact HO174.out) (by decide)) hk (fun _ h=>h.2)) (fun _ h=>h.1));have n1_:=Aside0.mk (KeepBut.trans (by repeat (first|(with_reducible first|exact HK.out|apply KeepBut.set_|apply keep_drewN|apply keep_drew|apply keep_alloc)|exact HK.out)) hk (.inl rfl));have n2_:=Aside0.mk (hb);have n3_:=Aside0.mk (hi);clear HO174;clear HK;clear HB;clear HI0;have HO174:=n0_;have HK:=n1_;have HB:=n2_;have HI0:=n3_;clear n0_ n1_ n2_ n3_;(try clear hb);(try clear hb2);(try clear hk);(try clear hi)))
      go_ret
      exact ⟨by first|rfl|(simp <;> rfl)|(simp [*] <;> rfl),by repeat (first|(with_reducible first|exact HI0.out|apply IsS55.alloc|apply IsS55.drewN|apply IsS55.drew|apply IsS55.set_1)|exact HI0.out),by repeat (first|(with_reducible first|exact HB.out|apply below_alloc|apply pw_below_drewN|apply below_drew1|refine below_set ?_ (IsS55.ge HI0.out))|exact HB.out),by repeat (first|(with_reducible first|exact HK.out|apply KeepBut.set_|apply keep_drewN|apply keep_drew|apply keep_alloc)|exact HK.out)⟩
     ·rw [if_neg c11] at H
      exact absurd H (by simp)
    ·rw [if_neg c9] at H
     have c9b0:(t168 == 2) = false:=beq_eq_false_iff_ne.mpr c9
     have c9b1:(t168 != 2) = true:=bne_iff_ne.mpr c9
     by_cases c16:t168 = 3
     ·rw [if_pos c16] at H
      have c16b0:(t168 == 3) = true:=beq_iff_eq.mpr c16
      have c16b1:(t168 != 3) = false:=bne_eq_false_iff_eq.mpr c16
      clear c16
      obtain ⟨y177,hy177⟩:∃ y_:List ByteArray,y_ = (([(⟨#[46,46]⟩:ByteArray),(⟨#[46,46,47,99]⟩:ByteArray),(⟨#[46,46,47,46,46,47,46,46]⟩:ByteArray),(⟨#[46]⟩:ByteArray),(⟨#[46,47,97]⟩:ByteArray)]:List ByteArray)):=⟨_,rfl⟩
      replace H:((spec_l6Rd_of.f kj2 s0_0 t169 y177).bind fun bt180=>(some (bt180.1,bt180.2))) = some (r1,r2):=by first|(rw [hy177];with_reducible exact H)|(have H2_:=(Option.bind_some _ _).symm.trans H;rw [hy177];with_reducible exact H2_)|(have H2_:=(Option.bind_some _ _).symm.trans H;with_reducible exact H2_)|with_reducible exact H|(rw [hy177];exact H)|exact H
      have Ny177:=Aside0.mk hy177
      clear hy177
      replace H:=Option.bind_eq_some_iff.mp H
      obtain ⟨⟨t180,t181⟩,A170,H⟩:=H
      replace H:(some (t180,t181)) = some (r1,r2):=H
      have A17:=Aside0.mk A170
      clear A170
      simp only [Option.some.injEq,Prod.mk.injEq] at H
      obtain ⟨rfl,rfl⟩:=H
      go_wp2_with (first|((with_reducible refine gate_dst (N:=19) rfl ?_);refine Kd.R_lit Kd.string _ 9 ?hg (N:=19) ?hd (xs:=([(⟨#[46,46]⟩:ByteArray),(⟨#[46,46,47,99]⟩:ByteArray),(⟨#[46,46,47,46,46,47,46,46]⟩:ByteArray),(⟨#[46]⟩:ByteArray),(⟨#[46,47,97]⟩:ByteArray)]:List ByteArray)) (inner:=[.string (⟨#[46,46]⟩:ByteArray), .string (⟨#[46,46,47,99]⟩:ByteArray), .string (⟨#[46,46,47,46,46,47,46,46]⟩:ByteArray), .string (⟨#[46]⟩:ByteArray), .string (⟨#[46,47,97]⟩:ByteArray)]) (ok:=fun _=>True) (okp:=fun _=>True) ?hr ?hp (fun _ hk=>hk) trivial (Below.refl _ _) (Nat.le_refl _) (by simp) ?_;(case hd=>rfl);(case hg=>rfl);(case hr=>first|(go_simp;done)|(go_simp;rfl));(case hp=>exact (Reps.one (show Kd.M Kd.string _ _ _ (⟨#[46,46]⟩:ByteArray) [.string (⟨#[46,46]⟩:ByteArray)] from rfl) (Reps.one (show Kd.M Kd.string _ _ _ (⟨#[46,46,47,99]⟩:ByteArray) [.string (⟨#[46,46,47,99]⟩:ByteArray)] from rfl) (Reps.one (show Kd.M Kd.string _ _ _ (⟨#[46,46,47,46,46,47,46,46]⟩:ByteArray) [.string (⟨#[46,46,47,46,46,47,46,46]⟩:ByteArray)] from rfl) (Reps.one (show Kd.M Kd.string _ _ _ (⟨#[46]⟩:ByteArray) [.string (⟨#[46]⟩:ByteArray)] from rfl) (Reps.one (show Kd.M Kd.string _ _ _ (⟨#[46,47,97]⟩:ByteArray) [.string (⟨#[46,47,97]⟩:ByteArray)] from rfl) (Reps.none _ _)))))));intro v178 w18 ho19 hb hg_ hnew_;clear hg_ hnew_;(first|rw [← Ny177.out] at ho19|(simp only [Int.reduceToNat] at ho19;rw [← Ny177.out] at ho19));have n0_:=Aside0.mk (Kd.R_lower ho19 (keep_size (w:=w) (g:=g) (row:=none) (by repeat (first|(with_reducible first|exact HK.out|apply KeepBut.set_|apply keep_drewN|apply keep_drew|apply keep_alloc)|exact HK.out))));have n1_:=Aside0.mk (IsS55.below (by repeat (first|(with_reducible first|exact HI0.out|apply IsS55.alloc|apply IsS55.drewN|apply IsS55.drew|apply IsS55.set_1)|exact HI0.out)) hb);have n2_:=Aside0.mk (KeepBut.trans (by repeat (first|(with_reducible first|exact HK.out|apply KeepBut.set_|apply keep_drewN|apply keep_drew|apply keep_alloc)|exact HK.out)) (KeepBut.of_below hb g none) (.inl rfl));have n3_:=Aside0.mk (below_step (by repeat (first|(with_reducible first|exact HB.out|apply below_alloc|apply pw_below_drewN|apply below_drew1|refine below_set ?_ (IsS55.ge HI0.out))|exact HB.out)) hb);clear HI0;clear HK;clear HB;have HO179:=n0_;have HI0:=n1_;have HK:=n2_;have HB:=n3_;clear n0_ n1_ n2_ n3_;clear hb ho19;obtain ⟨Ao20,co20,eo20⟩:=Kd.R_slice HO179.out;subst eo20)|((with_reducible refine gate_callee (f:=34) rfl ?_);refine goesL_ (some 20) rfl rfl Tryd.func34 (by kernel_rfl) rfl #[.pointer (some ⟨g,0,none⟩), .slice Ao20 y177.length co20] rfl (by (try simp only [List.map_toArray,List.map_cons,List.map_nil]);first|done|rfl|(simp only [List.length_drop,List.length_take];rfl)) ?_;(with_reducible refine (spec_l6Rd_of.calls kj2 g s0_0 t169 _ _ y177 t180 t181 w0 _ ?side1 ?side2 ?side3 ?side4 ?side5 A17.out).mono ?_);(case side1=>repeat (first|(with_reducible first|exact HI0.out|apply IsS55.alloc|apply IsS55.drewN|apply IsS55.drew|apply IsS55.set_1)|exact HI0.out));(case side2=>repeat (first|(with_reducible first|exact HB.out|apply below_alloc|apply pw_below_drewN|apply below_drew1|refine below_set ?_ (IsS55.ge HI0.out))|exact HB.out));(case side3=>repeat (first|exact (Kd.R_reads' HO179.out).2.2|(with_reducible refine Kd.C_alloc ?_ _)|(with_reducible refine Kd.C_drewN ?_ _)|(with_reducible refine Kd.C_drew ?_)));(case side4=>exact (Kd.R_reads' HO179.out).2.1);(case side5=>exact far_slice (IsS55.own_ne HI0.out HO179.out (by decide)));rintro e w21 ⟨rfl,hi,hb,hk⟩;refine ⟨_,rfl,?_⟩;have n0_:=Aside0.mk (Kd.R_mono (Kd.R_keep (IsS55.apart (show IsS55 w0 _ g s0_0 t169 from by repeat (first|(with_reducible first|exact HI0.out|apply IsS55.alloc|apply IsS55.drewN|apply IsS55.drew|apply IsS55.set_1)|exact HI0.out)) (by (with_reducible repeat (first|apply Kd.R_alloc|apply Kd.R_drewN|apply Kd.R_drew));exact HO179.out) (by decide)) hk (fun _ h=>h.2)) (fun _ h=>h.1));have n1_:=Aside0.mk (KeepBut.trans (by repeat (first|(with_reducible first|exact HK.out|apply KeepBut.set_|apply keep_drewN|apply keep_drew|apply keep_alloc)|exact HK.out)) hk (.inl rfl));have n2_:=Aside0.mk (hb);have n3_:=Aside0.mk (hi);clear HO179;clear HK;clear HB;clear HI0;have HO179:=n0_;have HK:=n1_;have HB:=n2_;have HI0:=n3_;clear n0_ n1_ n2_ n3_;(try clear hb);(try clear hb2);(try clear hk);(try clear hi)))
      go_ret
      exact ⟨by first|rfl|(simp <;> rfl)|(simp [*] <;> rfl),by repeat (first|(with_reducible first|exact HI0.out|apply IsS55.alloc|apply IsS55.drewN|apply IsS55.drew|apply IsS55.set_1)|exact HI0.out),by repeat (first|(with_reducible first|exact HB.out|apply below_alloc|apply pw_below_drewN|apply below_drew1|refine below_set ?_ (IsS55.ge HI0.out))|exact HB.out),by repeat (first|(with_reducible first|exact HK.out|apply KeepBut.set_|apply keep_drewN|apply keep_drew|apply keep_alloc)|exact HK.out)⟩
     ·rw [if_neg c16] at H
      have c16b0:(t168 == 3) = false:=beq_eq_false_iff_ne.mpr c16
      have c16b1:(t168 != 3) = true:=bne_iff_ne.mpr c16
      by_cases c22:t168 = 4
      ·rw [if_pos c22] at H
       have c22b0:(t168 == 4) = true:=beq_iff_eq.mpr c22
       have c22b1:(t168 != 4) = false:=bne_eq_false_iff_eq.mpr c22
       clear c22
       obtain ⟨y182,hy182⟩:∃ y_:List ByteArray,y_ = (([(⟨#[63,97]⟩:ByteArray),(⟨#[63]⟩:ByteArray),(⟨#[35,116,111,112]⟩:ByteArray),(⟨#[]⟩:ByteArray),(⟨#[97,35,98]⟩:ByteArray),(⟨#[98,63,97]⟩:ByteArray)]:List ByteArray)):=⟨_,rfl⟩
       replace H:((spec_l6Rd_of.f kj2 s0_0 t169 y182).bind fun bt185=>(some (bt185.1,bt185.2))) = some (r1,r2):=by first|(rw [hy182];with_reducible exact H)|(have H2_:=(Option.bind_some _ _).symm.trans H;rw [hy182];with_reducible exact H2_)|(have H2_:=(Option.bind_some _ _).symm.trans H;with_reducible exact H2_)|with_reducible exact H|(rw [hy182];exact H)|exact H
       have Ny182:=Aside0.mk hy182
       clear hy182
       replace H:=Option.bind_eq_some_iff.mp H
       obtain ⟨⟨t185,t186⟩,A230,H⟩:=H
       replace H:(some (t185,t186)) = some (r1,r2):=H
       have A23:=Aside0.mk A230
       clear A230
       simp only [Option.some.injEq,Prod.mk.injEq] at H
       obtain ⟨rfl,rfl⟩:=H
       go_wp2_with (first|((with_reducible refine gate_dst (N:=24) rfl ?_);refine Kd.R_lit Kd.string _ 9 ?hg (N:=24) ?hd (xs:=([(⟨#[63,97]⟩:ByteArray),(⟨#[63]⟩:ByteArray),(⟨#[35,116,111,112]⟩:ByteArray),(⟨#[]⟩:ByteArray),(⟨#[97,35,98]⟩:ByteArray),(⟨#[98,63,97]⟩:ByteArray)]:List ByteArray)) (inner:=[.string (⟨#[63,97]⟩:ByteArray), .string (⟨#[63]⟩:ByteArray), .string (⟨#[35,116,111,112]⟩:ByteArray), .string (⟨#[]⟩:ByteArray), .string (⟨#[97,35,98]⟩:ByteArray), .string (⟨#[98,63,97]⟩:ByteArray)]) (ok:=fun _=>True) (okp:=fun _=>True) ?hr ?hp (fun _ hk=>hk) trivial (Below.refl _ _) (Nat.le_refl _) (by simp) ?_;(case hd=>rfl);(case hg=>rfl);(case hr=>first|(go_simp;done)|(go_simp;rfl));(case hp=>exact (Reps.one (show Kd.M Kd.string _ _ _ (⟨#[63,97]⟩:ByteArray) [.string (⟨#[63,97]⟩:ByteArray)] from rfl) (Reps.one (show Kd.M Kd.string _ _ _ (⟨#[63]⟩:ByteArray) [.string (⟨#[63]⟩:ByteArray)] from rfl) (Reps.one (show Kd.M Kd.string _ _ _ (⟨#[35,116,111,112]⟩:ByteArray) [.string (⟨#[35,116,111,112]⟩:ByteArray)] from rfl) (Reps.one (show Kd.M Kd.string _ _ _ (⟨#[]⟩:ByteArray) [.string (⟨#[]⟩:ByteArray)] from rfl) (Reps.one (show Kd.M Kd.string _ _ _ (⟨#[97,35,98]⟩:ByteArray) [.string (⟨#[97,35,98]⟩:ByteArray)] from rfl) (Reps.one (show Kd.M Kd.string _ _ _ (⟨#[98,63,97]⟩:ByteArray) [.string (⟨#[98,63,97]⟩:ByteArray)] from rfl) (Reps.none _ _))))))));intro v183 w24 ho25 hb hg_ hnew_;clear hg_ hnew_;(first|rw [← Ny182.out] at ho25|(simp only [Int.reduceToNat] at ho25;rw [← Ny182.out] at ho25));have n0_:=Aside0.mk (Kd.R_lower ho25 (keep_size (w:=w) (g:=g) (row:=none) (by repeat (first|(with_reducible first|exact HK.out|apply KeepBut.set_|apply keep_drewN|apply keep_drew|apply keep_alloc)|exact HK.out))));have n1_:=Aside0.mk (IsS55.below (by repeat (first|(with_reducible first|exact HI0.out|apply IsS55.alloc|apply IsS55.drewN|apply IsS55.drew|apply IsS55.set_1)|exact HI0.out)) hb);have n2_:=Aside0.mk (KeepBut.trans (by repeat (first|(with_reducible first|exact HK.out|apply KeepBut.set_|apply keep_drewN|apply keep_drew|apply keep_alloc)|exact HK.out)) (KeepBut.of_below hb g none) (.inl rfl));have n3_:=Aside0.mk (below_step (by repeat (first|(with_reducible first|exact HB.out|apply below_alloc|apply pw_below_drewN|apply below_drew1|refine below_set ?_ (IsS55.ge HI0.out))|exact HB.out)) hb);clear HI0;clear HK;clear HB;have HO184:=n0_;have HI0:=n1_;have HK:=n2_;have HB:=n3_;clear n0_ n1_ n2_ n3_;clear hb ho25;obtain ⟨Ao26,co26,eo26⟩:=Kd.R_slice HO184.out;subst eo26)|((with_reducible refine gate_callee (f:=34) rfl ?_);refine goesL_ (some 25) rfl rfl Tryd.func34 (by kernel_rfl) rfl #[.pointer (some ⟨g,0,none⟩), .slice Ao26 y182.length co26] rfl (by (try simp only [List.map_toArray,List.map_cons,List.map_nil]);first|done|rfl|(simp only [List.length_drop,List.length_take];rfl)) ?_;(with_reducible refine (spec_l6Rd_of.calls kj2 g s0_0 t169 _ _ y182 t185 t186 w0 _ ?side1 ?side2 ?side3 ?side4 ?side5 A23.out).mono ?_);(case side1=>repeat (first|(with_reducible first|exact HI0.out|apply IsS55.alloc|apply IsS55.drewN|apply IsS55.drew|apply IsS55.set_1)|exact HI0.out));(case side2=>repeat (first|(with_reducible first|exact HB.out|apply below_alloc|apply pw_below_drewN|apply below_drew1|refine below_set ?_ (IsS55.ge HI0.out))|exact HB.out));(case side3=>repeat (first|exact (Kd.R_reads' HO184.out).2.2|(with_reducible refine Kd.C_alloc ?_ _)|(with_reducible refine Kd.C_drewN ?_ _)|(with_reducible refine Kd.C_drew ?_)));(case side4=>exact (Kd.R_reads' HO184.out).2.1);(case side5=>exact far_slice (IsS55.own_ne HI0.out HO184.out (by decide)));rintro e w27 ⟨rfl,hi,hb,hk⟩;refine ⟨_,rfl,?_⟩;have n0_:=Aside0.mk (Kd.R_mono (Kd.R_keep (IsS55.apart (show IsS55 w0 _ g s0_0 t169 from by repeat (first|(with_reducible first|exact HI0.out|apply IsS55.alloc|apply IsS55.drewN|apply IsS55.drew|apply IsS55.set_1)|exact HI0.out)) (by (with_reducible repeat (first|apply Kd.R_alloc|apply Kd.R_drewN|apply Kd.R_drew));exact HO184.out) (by decide)) hk (fun _ h=>h.2)) (fun _ h=>h.1));have n1_:=Aside0.mk (KeepBut.trans (by repeat (first|(with_reducible first|exact HK.out|apply KeepBut.set_|apply keep_drewN|apply keep_drew|apply keep_alloc)|exact HK.out)) hk (.inl rfl));have n2_:=Aside0.mk (hb);have n3_:=Aside0.mk (hi);clear HO184;clear HK;clear HB;clear HI0;have HO184:=n0_;have HK:=n1_;have HB:=n2_;have HI0:=n3_;clear n0_ n1_ n2_ n3_;(try clear hb);(try clear hb2);(try clear hk);(try clear hi)))
       go_ret
       exact ⟨by first|rfl|(simp <;> rfl)|(simp [*] <;> rfl),by repeat (first|(with_reducible first|exact HI0.out|apply IsS55.alloc|apply IsS55.drewN|apply IsS55.drew|apply IsS55.set_1)|exact HI0.out),by repeat (first|(with_reducible first|exact HB.out|apply below_alloc|apply pw_below_drewN|apply below_drew1|refine below_set ?_ (IsS55.ge HI0.out))|exact HB.out),by repeat (first|(with_reducible first|exact HK.out|apply KeepBut.set_|apply keep_drewN|apply keep_drew|apply keep_alloc)|exact HK.out)⟩
      ·rw [if_neg c22] at H
       have c22b0:(t168 == 4) = false:=beq_eq_false_iff_ne.mpr c22
       have c22b1:(t168 != 4) = true:=bne_iff_ne.mpr c22
       by_cases c28:t168 = 5
       ·rw [if_pos c28] at H
        have c28b0:(t168 == 5) = true:=beq_iff_eq.mpr c28
        have c28b1:(t168 != 5) = false:=bne_eq_false_iff_eq.mpr c28
        clear c28
        obtain ⟨y187,hy187⟩:∃ y_:List ByteArray,y_ = (([(⟨#[47,47,65,66,47,97]⟩:ByteArray),(⟨#[47,47,99,100]⟩:ByteArray),(⟨#[47,47,99,100,63,120]⟩:ByteArray),(⟨#[47,47,97,98,47,37,54,49]⟩:ByteArray),(⟨#[47,47,116,111,111,108,111,110,103,47,97]⟩:ByteArray),(⟨#[47,47,97,49,47,98]⟩:ByteArray),(⟨#[47,47,47,97]⟩:ByteArray)]:List ByteArray)):=⟨_,rfl⟩
        replace H:((spec_l6Rd_of.f kj2 s0_0 t169 y187).bind fun bt190=>(some (bt190.1,bt190.2))) = some (r1,r2):=by first|(rw [hy187];with_reducible exact H)|(have H2_:=(Option.bind_some _ _).symm.trans H;rw [hy187];with_reducible exact H2_)|(have H2_:=(Option.bind_some _ _).symm.trans H;with_reducible exact H2_)|with_reducible exact H|(rw [hy187];exact H)|exact H
        have Ny187:=Aside0.mk hy187
        clear hy187
        replace H:=Option.bind_eq_some_iff.mp H
        obtain ⟨⟨t190,t191⟩,A290,H⟩:=H
        replace H:(some (t190,t191)) = some (r1,r2):=H
        have A29:=Aside0.mk A290
        clear A290
        simp only [Option.some.injEq,Prod.mk.injEq] at H
        obtain ⟨rfl,rfl⟩:=H
        go_wp2_with (first|((with_reducible refine gate_dst (N:=29) rfl ?_);refine Kd.R_lit Kd.string _ 9 ?hg (N:=29) ?hd (xs:=([(⟨#[47,47,65,66,47,97]⟩:ByteArray),(⟨#[47,47,99,100]⟩:ByteArray),(⟨#[47,47,99,100,63,120]⟩:ByteArray),(⟨#[47,47,97,98,47,37,54,49]⟩:ByteArray),(⟨#[47,47,116,111,111,108,111,110,103,47,97]⟩:ByteArray),(⟨#[47,47,97,49,47,98]⟩:ByteArray),(⟨#[47,47,47,97]⟩:ByteArray)]:List ByteArray)) (inner:=[.string (⟨#[47,47,65,66,47,97]⟩:ByteArray), .string (⟨#[47,47,99,100]⟩:ByteArray), .string (⟨#[47,47,99,100,63,120]⟩:ByteArray), .string (⟨#[47,47,97,98,47,37,54,49]⟩:ByteArray), .string (⟨#[47,47,116,111,111,108,111,110,103,47,97]⟩:ByteArray), .string (⟨#[47,47,97,49,47,98]⟩:ByteArray), .string (⟨#[47,47,47,97]⟩:ByteArray)]) (ok:=fun _=>True) (okp:=fun _=>True) ?hr ?hp (fun _ hk=>hk) trivial (Below.refl _ _) (Nat.le_refl _) (by simp) ?_;(case hd=>rfl);(case hg=>rfl);(case hr=>first|(go_simp;done)|(go_simp;rfl));(case hp=>exact (Reps.one (show Kd.M Kd.string _ _ _ (⟨#[47,47,65,66,47,97]⟩:ByteArray) [.string (⟨#[47,47,65,66,47,97]⟩:ByteArray)] from rfl) (Reps.one (show Kd.M Kd.string _ _ _ (⟨#[47,47,99,100]⟩:ByteArray) [.string (⟨#[47,47,99,100]⟩:ByteArray)] from rfl) (Reps.one (show Kd.M Kd.string _ _ _ (⟨#[47,47,99,100,63,120]⟩:ByteArray) [.string (⟨#[47,47,99,100,63,120]⟩:ByteArray)] from rfl) (Reps.one (show Kd.M Kd.string _ _ _ (⟨#[47,47,97,98,47,37,54,49]⟩:ByteArray) [.string (⟨#[47,47,97,98,47,37,54,49]⟩:ByteArray)] from rfl) (Reps.one (show Kd.M Kd.string _ _ _ (⟨#[47,47,116,111,111,108,111,110,103,47,97]⟩:ByteArray) [.string (⟨#[47,47,116,111,111,108,111,110,103,47,97]⟩:ByteArray)] from rfl) (Reps.one (show Kd.M Kd.string _ _ _ (⟨#[47,47,97,49,47,98]⟩:ByteArray) [.string (⟨#[47,47,97,49,47,98]⟩:ByteArray)] from rfl) (Reps.one (show Kd.M Kd.string _ _ _ (⟨#[47,47,47,97]⟩:ByteArray) [.string (⟨#[47,47,47,97]⟩:ByteArray)] from rfl) (Reps.none _ _)))))))));intro v188 w30 ho31 hb hg_ hnew_;clear hg_ hnew_;(first|rw [← Ny187.out] at ho31|(simp only [Int.reduceToNat] at ho31;rw [← Ny187.out] at ho31));have n0_:=Aside0.mk (Kd.R_lower ho31 (keep_size (w:=w) (g:=g) (row:=none) (by repeat (first|(with_reducible first|exact HK.out|apply KeepBut.set_|apply keep_drewN|apply keep_drew|apply keep_alloc)|exact HK.out))));have n1_:=Aside0.mk (IsS55.below (by repeat (first|(with_reducible first|exact HI0.out|apply IsS55.alloc|apply IsS55.drewN|apply IsS55.drew|apply IsS55.set_1)|exact HI0.out)) hb);have n2_:=Aside0.mk (KeepBut.trans (by repeat (first|(with_reducible first|exact HK.out|apply KeepBut.set_|apply keep_drewN|apply keep_drew|apply keep_alloc)|exact HK.out)) (KeepBut.of_below hb g none) (.inl rfl));have n3_:=Aside0.mk (below_step (by repeat (first|(with_reducible first|exact HB.out|apply below_alloc|apply pw_below_drewN|apply below_drew1|refine below_set ?_ (IsS55.ge HI0.out))|exact HB.out)) hb);clear HI0;clear HK;clear HB;have HO189:=n0_;have HI0:=n1_;have HK:=n2_;have HB:=n3_;clear n0_ n1_ n2_ n3_;clear hb ho31;obtain ⟨Ao32,co32,eo32⟩:=Kd.R_slice HO189.out;subst eo32)|((with_reducible refine gate_callee (f:=34) rfl ?_);refine goesL_ (some 30) rfl rfl Tryd.func34 (by kernel_rfl) rfl #[.pointer (some ⟨g,0,none⟩), .slice Ao32 y187.length co32] rfl (by (try simp only [List.map_toArray,List.map_cons,List.map_nil]);first|done|rfl|(simp only [List.length_drop,List.length_take];rfl)) ?_;(with_reducible refine (spec_l6Rd_of.calls kj2 g s0_0 t169 _ _ y187 t190 t191 w0 _ ?side1 ?side2 ?side3 ?side4 ?side5 A29.out).mono ?_);(case side1=>repeat (first|(with_reducible first|exact HI0.out|apply IsS55.alloc|apply IsS55.drewN|apply IsS55.drew|apply IsS55.set_1)|exact HI0.out));(case side2=>repeat (first|(with_reducible first|exact HB.out|apply below_alloc|apply pw_below_drewN|apply below_drew1|refine below_set ?_ (IsS55.ge HI0.out))|exact HB.out));(case side3=>repeat (first|exact (Kd.R_reads' HO189.out).2.2|(with_reducible refine Kd.C_alloc ?_ _)|(with_reducible refine Kd.C_drewN ?_ _)|(with_reducible refine Kd.C_drew ?_)));(case side4=>exact (Kd.R_reads' HO189.out).2.1);(case side5=>exact far_slice (IsS55.own_ne HI0.out HO189.out (by decide)));rintro e w33 ⟨rfl,hi,hb,hk⟩;refine ⟨_,rfl,?_⟩;have n0_:=Aside0.mk (Kd.R_mono (Kd.R_keep (IsS55.apart (show IsS55 w0 _ g s0_0 t169 from by repeat (first|(with_reducible first|exact HI0.out|apply IsS55.alloc|apply IsS55.drewN|apply IsS55.drew|apply IsS55.set_1)|exact HI0.out)) (by (with_reducible repeat (first|apply Kd.R_alloc|apply Kd.R_drewN|apply Kd.R_drew));exact HO189.out) (by decide)) hk (fun _ h=>h.2)) (fun _ h=>h.1));have n1_:=Aside0.mk (KeepBut.trans (by repeat (first|(with_reducible first|exact HK.out|apply KeepBut.set_|apply keep_drewN|apply keep_drew|apply keep_alloc)|exact HK.out)) hk (.inl rfl));have n2_:=Aside0.mk (hb);have n3_:=Aside0.mk (hi);clear HO189;clear HK;clear HB;clear HI0;have HO189:=n0_;have HK:=n1_;have HB:=n2_;have HI0:=n3_;clear n0_ n1_ n2_ n3_;(try clear hb);(try clear hb2);(try clear hk);(try clear hi)))
        go_ret
        exact ⟨by first|rfl|(simp <;> rfl)|(simp [*] <;> rfl),by repeat (first|(with_reducible first|exact HI0.out|apply IsS55.alloc|apply IsS55.drewN|apply IsS55.drew|apply IsS55.set_1)|exact HI0.out),by repeat (first|(with_reducible first|exact HB.out|apply below_alloc|apply pw_below_drewN|apply below_drew1|refine below_set ?_ (IsS55.ge HI0.out))|exact HB.out),by repeat (first|(with_reducible first|exact HK.out|apply KeepBut.set_|apply keep_drewN|apply keep_drew|apply keep_alloc)|exact HK.out)⟩
       ·rw [if_neg c28] at H
        have c28b0:(t168 == 5) = false:=beq_eq_false_iff_ne.mpr c28
        have c28b1:(t168 != 5) = true:=bne_iff_ne.mpr c28
        obtain ⟨y192,hy192⟩:∃ y_:List ByteArray,y_ = (([(⟨#[97]⟩:ByteArray),(⟨#[98]⟩:ByteArray),(⟨#[99]⟩:ByteArray),(⟨#[97,47,98]⟩:ByteArray)]:List ByteArray)):=⟨_,rfl⟩
        replace H:((spec_l6Rd_of.f kj2 s0_0 t169 y192).bind fun bt195=>(some (bt195.1,bt195.2))) = some (r1,r2):=by first|(rw [hy192];with_reducible exact H)|(have H2_:=(Option.bind_some _ _).symm.trans H;rw [hy192];with_reducible exact H2_)|(have H2_:=(Option.bind_some _ _).symm.trans H;with_reducible exact H2_)|with_reducible exact H|(rw [hy192];exact H)|exact H
        have Ny192:=Aside0.mk hy192
        clear hy192
        replace H:=Option.bind_eq_some_iff.mp H
        obtain ⟨⟨t195,t196⟩,A340,H⟩:=H
        replace H:(some (t195,t196)) = some (r1,r2):=H
        have A34:=Aside0.mk A340
        clear A340
        simp only [Option.some.injEq,Prod.mk.injEq] at H
        obtain ⟨rfl,rfl⟩:=H
        go_wp2_with (first|((with_reducible refine gate_dst (N:=32) rfl ?_);refine Kd.R_lit Kd.string _ 9 ?hg (N:=32) ?hd (xs:=([(⟨#[97]⟩:ByteArray),(⟨#[98]⟩:ByteArray),(⟨#[99]⟩:ByteArray),(⟨#[97,47,98]⟩:ByteArray)]:List ByteArray)) (inner:=[.string (⟨#[97]⟩:ByteArray), .string (⟨#[98]⟩:ByteArray), .string (⟨#[99]⟩:ByteArray), .string (⟨#[97,47,98]⟩:ByteArray)]) (ok:=fun _=>True) (okp:=fun _=>True) ?hr ?hp (fun _ hk=>hk) trivial (Below.refl _ _) (Nat.le_refl _) (by simp) ?_;(case hd=>rfl);(case hg=>rfl);(case hr=>first|(go_simp;done)|(go_simp;rfl));(case hp=>exact (Reps.one (show Kd.M Kd.string _ _ _ (⟨#[97]⟩:ByteArray) [.string (⟨#[97]⟩:ByteArray)] from rfl) (Reps.one (show Kd.M Kd.string _ _ _ (⟨#[98]⟩:ByteArray) [.string (⟨#[98]⟩:ByteArray)] from rfl) (Reps.one (show Kd.M Kd.string _ _ _ (⟨#[99]⟩:ByteArray) [.string (⟨#[99]⟩:ByteArray)] from rfl) (Reps.one (show Kd.M Kd.string _ _ _ (⟨#[97,47,98]⟩:ByteArray) [.string (⟨#[97,47,98]⟩:ByteArray)] from rfl) (Reps.none _ _))))));intro v193 w35 ho36 hb hg_ hnew_;clear hg_ hnew_;(first|rw [← Ny192.out] at ho36|(simp only [Int.reduceToNat] at ho36;rw [← Ny192.out] at ho36));have n0_:=Aside0.mk (Kd.R_lower ho36 (keep_size (w:=w) (g:=g) (row:=none) (by repeat (first|(with_reducible first|exact HK.out|apply KeepBut.set_|apply keep_drewN|apply keep_drew|apply keep_alloc)|exact HK.out))));have n1_:=Aside0.mk (IsS55.below (by repeat (first|(with_reducible first|exact HI0.out|apply IsS55.alloc|apply IsS55.drewN|apply IsS55.drew|apply IsS55.set_1)|exact HI0.out)) hb);have n2_:=Aside0.mk (KeepBut.trans (by repeat (first|(with_reducible first|exact HK.out|apply KeepBut.set_|apply keep_drewN|apply keep_drew|apply keep_alloc)|exact HK.out)) (KeepBut.of_below hb g none) (.inl rfl));have n3_:=Aside0.mk (below_step (by repeat (first|(with_reducible first|exact HB.out|apply below_alloc|apply pw_below_drewN|apply below_drew1|refine below_set ?_ (IsS55.ge HI0.out))|exact HB.out)) hb);clear HI0;clear HK;clear HB;have HO194:=n0_;have HI0:=n1_;have HK:=n2_;have HB:=n3_;clear n0_ n1_ n2_ n3_;clear hb ho36;obtain ⟨Ao37,co37,eo37⟩:=Kd.R_slice HO194.out;subst eo37)|((with_reducible refine gate_callee (f:=34) rfl ?_);refine goesL_ (some 33) rfl rfl Tryd.func34 (by kernel_rfl) rfl #[.pointer (some ⟨g,0,none⟩), .slice Ao37 y192.length co37] rfl (by (try simp only [List.map_toArray,List.map_cons,List.map_nil]);first|done|rfl|(simp only [List.length_drop,List.length_take];rfl)) ?_;(with_reducible refine (spec_l6Rd_of.calls kj2 g s0_0 t169 _ _ y192 t195 t196 w0 _ ?side1 ?side2 ?side3 ?side4 ?side5 A34.out).mono ?_);(case side1=>repeat (first|(with_reducible first|exact HI0.out|apply IsS55.alloc|apply IsS55.drewN|apply IsS55.drew|apply IsS55.set_1)|exact HI0.out));(case side2=>repeat (first|(with_reducible first|exact HB.out|apply below_alloc|apply pw_below_drewN|apply below_drew1|refine below_set ?_ (IsS55.ge HI0.out))|exact HB.out));(case side3=>repeat (first|exact (Kd.R_reads' HO194.out).2.2|(with_reducible refine Kd.C_alloc ?_ _)|(with_reducible refine Kd.C_drewN ?_ _)|(with_reducible refine Kd.C_drew ?_)));(case side4=>exact (Kd.R_reads' HO194.out).2.1);(case side5=>exact far_slice (IsS55.own_ne HI0.out HO194.out (by decide)));rintro e w38 ⟨rfl,hi,hb,hk⟩;refine ⟨_,rfl,?_⟩;have n0_:=Aside0.mk (Kd.R_mono (Kd.R_keep (IsS55.apart (show IsS55 w0 _ g s0_0 t169 from by repeat (first|(with_reducible first|exact HI0.out|apply IsS55.alloc|apply IsS55.drewN|apply IsS55.drew|apply IsS55.set_1)|exact HI0.out)) (by (with_reducible repeat (first|apply Kd.R_alloc|apply Kd.R_drewN|apply Kd.R_drew));exact HO194.out) (by decide)) hk (fun _ h=>h.2)) (fun _ h=>h.1));have n1_:=Aside0.mk (KeepBut.trans (by repeat (first|(with_reducible first|exact HK.out|apply KeepBut.set_|apply keep_drewN|apply keep_drew|apply keep_alloc)|exact HK.out)) hk (.inl rfl));have n2_:=Aside0.mk (hb);have n3_:=Aside0.mk (hi);clear HO194;clear HK;clear HB;clear HI0;have HO194:=n0_;have HK:=n1_;have HB:=n2_;have HI0:=n3_;clear n0_ n1_ n2_ n3_;(try clear hb);(try clear hb2);(try clear hk);(try clear hi)))
        go_ret
        exact ⟨by first|rfl|(simp <;> rfl)|(simp [*] <;> rfl),by repeat (first|(with_reducible first|exact HI0.out|apply IsS55.alloc|apply IsS55.drewN|apply IsS55.drew|apply IsS55.set_1)|exact HI0.out),by repeat (first|(with_reducible first|exact HB.out|apply below_alloc|apply pw_below_drewN|apply below_drew1|refine below_set ?_ (IsS55.ge HI0.out))|exact HB.out),by repeat (first|(with_reducible first|exact HK.out|apply KeepBut.set_|apply keep_drewN|apply keep_drew|apply keep_alloc)|exact HK.out)⟩

/-! ### spec_l71Part: function 35 -/
def spec_l71Part.f (k:Nat) (s0_0:List Int) (s0_1:Int):Option (ByteArray × Int):=(spec_l6Rd_of.f k s0_0 s0_1 (([(⟨#[97]⟩:ByteArray),(⟨#[98]⟩:ByteArray),(⟨#[99]⟩:ByteArray),(⟨#[120,46,121]⟩:ByteArray),(⟨#[46,46]⟩:ByteArray),(⟨#[46]⟩:ByteArray),(⟨#[]⟩:ByteArray),(⟨#[37,54,49]⟩:ByteArray),(⟨#[100,45,49]⟩:ByteArray),(⟨#[37,51,70]⟩:ByteArray),(⟨#[98]⟩:ByteArray)]:List ByteArray))).bind fun bt200=>(some (bt200.1,bt200.2))
theorem spec_l71Part.mono:∀ a0 a1 k,LeO (spec_l71Part.f k a0 a1) (spec_l71Part.f (k + 1) a0 a1):=by
 intro a0 a1 k
 unfold spec_l71Part.f
 repeat' first
   | (with_reducible exact spec_l6Rd_of.mono _ _ _ _)
   | (with_reducible exact LeO.refl _)
   | (with_reducible exact LeO.none _)
   | (with_reducible refine LeO.ite ?_ ?_)
   | (with_reducible refine LeO.bind ?_ (fun _=>?_))
   | exact spec_l6Rd_of.mono _ _ _ _
   | exact LeO.none _
   | refine LeO.ite ?_ ?_
   | refine LeO.bind ?_ (fun _=>?_)
theorem spec_l71Part.calls (k:Nat) (g:Nat) (s0_0:List Int) (s0_1:Int) (r1:ByteArray) (r2:Int) (w0 w:World) (hI:IsS55 w0 w g s0_0 s0_1) (hB:Below w0.heap.size w0 w) (h:spec_l71Part.f k s0_0 s0_1 = some (r1,r2)) :
  Calls Tryd.prog 35 #[.pointer (some ⟨g,0,none⟩)] w fun e w'=>e = .returned (.string r1) ∧ IsS55 w0 w' g s0_0 r2 ∧ Below w0.heap.size w0 w' ∧ KeepBut w w' g none:=by
 have HI0:=Aside0.mk hI
 have HK:=Aside0.mk (KeepBut.refl w g none)
 have HL:=Aside0.mk hB.size
 clear hI
 have HW0:=Aside0.mk hB.size
 have HB:=Aside0.mk hB
 clear hB
 have H:((spec_l6Rd_of.f k s0_0 s0_1 (([(⟨#[97]⟩:ByteArray),(⟨#[98]⟩:ByteArray),(⟨#[99]⟩:ByteArray),(⟨#[120,46,121]⟩:ByteArray),(⟨#[46,46]⟩:ByteArray),(⟨#[46]⟩:ByteArray),(⟨#[]⟩:ByteArray),(⟨#[37,54,49]⟩:ByteArray),(⟨#[100,45,49]⟩:ByteArray),(⟨#[37,51,70]⟩:ByteArray),(⟨#[98]⟩:ByteArray)]:List ByteArray))).bind fun bt200=>(some (bt200.1,bt200.2))) = some (r1,r2):=h
 clear h
 obtain ⟨y197,hy197⟩:∃ y_:List ByteArray,y_ = (([(⟨#[97]⟩:ByteArray),(⟨#[98]⟩:ByteArray),(⟨#[99]⟩:ByteArray),(⟨#[120,46,121]⟩:ByteArray),(⟨#[46,46]⟩:ByteArray),(⟨#[46]⟩:ByteArray),(⟨#[]⟩:ByteArray),(⟨#[37,54,49]⟩:ByteArray),(⟨#[100,45,49]⟩:ByteArray),(⟨#[37,51,70]⟩:ByteArray),(⟨#[98]⟩:ByteArray)]:List ByteArray)):=⟨_,rfl⟩
 replace H:((spec_l6Rd_of.f k s0_0 s0_1 y197).bind fun bt200=>(some (bt200.1,bt200.2))) = some (r1,r2):=by first|(rw [hy197];with_reducible exact H)|(have H2_:=(Option.bind_some _ _).symm.trans H;rw [hy197];with_reducible exact H2_)|(have H2_:=(Option.bind_some _ _).symm.trans H;with_reducible exact H2_)|with_reducible exact H|(rw [hy197];exact H)|exact H
 have Ny197:=Aside0.mk hy197
 clear hy197
 replace H:=Option.bind_eq_some_iff.mp H
 obtain ⟨⟨t200,t201⟩,A20,H⟩:=H
 replace H:(some (t200,t201)) = some (r1,r2):=H
 have A2:=Aside0.mk A20
 clear A20
 simp only [Option.some.injEq,Prod.mk.injEq] at H
 obtain ⟨rfl,rfl⟩:=H
 go_enter Tryd.func35,Tryd.ntmps35
 go_wp2_with (first|((with_reducible refine gate_dst (N:=4) rfl ?_);refine Kd.R_lit Kd.string _ 9 ?hg (N:=4) ?hd (xs:=([(⟨#[97]⟩:ByteArray),(⟨#[98]⟩:ByteArray),(⟨#[99]⟩:ByteArray),(⟨#[120,46,121]⟩:ByteArray),(⟨#[46,46]⟩:ByteArray),(⟨#[46]⟩:ByteArray),(⟨#[]⟩:ByteArray),(⟨#[37,54,49]⟩:ByteArray),(⟨#[100,45,49]⟩:ByteArray),(⟨#[37,51,70]⟩:ByteArray),(⟨#[98]⟩:ByteArray)]:List ByteArray)) (inner:=[.string (⟨#[97]⟩:ByteArray), .string (⟨#[98]⟩:ByteArray), .string (⟨#[99]⟩:ByteArray), .string (⟨#[120,46,121]⟩:ByteArray), .string (⟨#[46,46]⟩:ByteArray), .string (⟨#[46]⟩:ByteArray), .string (⟨#[]⟩:ByteArray), .string (⟨#[37,54,49]⟩:ByteArray), .string (⟨#[100,45,49]⟩:ByteArray), .string (⟨#[37,51,70]⟩:ByteArray), .string (⟨#[98]⟩:ByteArray)]) (ok:=fun _=>True) (okp:=fun _=>True) ?hr ?hp (fun _ hk=>hk) trivial (Below.refl _ _) (Nat.le_refl _) (by simp) ?_;(case hd=>rfl);(case hg=>rfl);(case hr=>first|(go_simp;done)|(go_simp;rfl));(case hp=>exact (Reps.one (show Kd.M Kd.string _ _ _ (⟨#[97]⟩:ByteArray) [.string (⟨#[97]⟩:ByteArray)] from rfl) (Reps.one (show Kd.M Kd.string _ _ _ (⟨#[98]⟩:ByteArray) [.string (⟨#[98]⟩:ByteArray)] from rfl) (Reps.one (show Kd.M Kd.string _ _ _ (⟨#[99]⟩:ByteArray) [.string (⟨#[99]⟩:ByteArray)] from rfl) (Reps.one (show Kd.M Kd.string _ _ _ (⟨#[120,46,121]⟩:ByteArray) [.string (⟨#[120,46,121]⟩:ByteArray)] from rfl) (Reps.one (show Kd.M Kd.string _ _ _ (⟨#[46,46]⟩:ByteArray) [.string (⟨#[46,46]⟩:ByteArray)] from rfl) (Reps.one (show Kd.M Kd.string _ _ _ (⟨#[46]⟩:ByteArray) [.string (⟨#[46]⟩:ByteArray)] from rfl) (Reps.one (show Kd.M Kd.string _ _ _ (⟨#[]⟩:ByteArray) [.string (⟨#[]⟩:ByteArray)] from rfl) (Reps.one (show Kd.M Kd.string _ _ _ (⟨#[37,54,49]⟩:ByteArray) [.string (⟨#[37,54,49]⟩:ByteArray)] from rfl) (Reps.one (show Kd.M Kd.string _ _ _ (⟨#[100,45,49]⟩:ByteArray) [.string (⟨#[100,45,49]⟩:ByteArray)] from rfl) (Reps.one (show Kd.M Kd.string _ _ _ (⟨#[37,51,70]⟩:ByteArray) [.string (⟨#[37,51,70]⟩:ByteArray)] from rfl) (Reps.one (show Kd.M Kd.string _ _ _ (⟨#[98]⟩:ByteArray) [.string (⟨#[98]⟩:ByteArray)] from rfl) (Reps.none _ _)))))))))))));intro v198 w3 ho4 hb hg_ hnew_;clear hg_ hnew_;(first|rw [← Ny197.out] at ho4|(simp only [Int.reduceToNat] at ho4;rw [← Ny197.out] at ho4));have n0_:=Aside0.mk (Kd.R_lower ho4 (keep_size (w:=w) (g:=g) (row:=none) (by repeat (first|(with_reducible first|exact HK.out|apply KeepBut.set_|apply keep_drewN|apply keep_drew|apply keep_alloc)|exact HK.out))));have n1_:=Aside0.mk (IsS55.below (by repeat (first|(with_reducible first|exact HI0.out|apply IsS55.alloc|apply IsS55.drewN|apply IsS55.drew|apply IsS55.set_1)|exact HI0.out)) hb);have n2_:=Aside0.mk (KeepBut.trans (by repeat (first|(with_reducible first|exact HK.out|apply KeepBut.set_|apply keep_drewN|apply keep_drew|apply keep_alloc)|exact HK.out)) (KeepBut.of_below hb g none) (.inl rfl));have n3_:=Aside0.mk (below_step (by repeat (first|(with_reducible first|exact HB.out|apply below_alloc|apply pw_below_drewN|apply below_drew1|refine below_set ?_ (IsS55.ge HI0.out))|exact HB.out)) hb);clear HI0;clear HK;clear HB;have HO199:=n0_;have HI0:=n1_;have HK:=n2_;have HB:=n3_;clear n0_ n1_ n2_ n3_;clear hb ho4;obtain ⟨Ao5,co5,eo5⟩:=Kd.R_slice HO199.out;subst eo5)|((with_reducible refine gate_callee (f:=34) rfl ?_);refine goesL_ (some 5) rfl rfl Tryd.func34 (by kernel_rfl) rfl #[.pointer (some ⟨g,0,none⟩), .slice Ao5 y197.length co5] rfl (by (try simp only [List.map_toArray,List.map_cons,List.map_nil]);first|done|rfl|(simp only [List.length_drop,List.length_take];rfl)) ?_;(with_reducible refine (spec_l6Rd_of.calls k g s0_0 s0_1 _ _ y197 t200 t201 w0 _ ?side1 ?side2 ?side3 ?side4 ?side5 A2.out).mono ?_);(case side1=>repeat (first|(with_reducible first|exact HI0.out|apply IsS55.alloc|apply IsS55.drewN|apply IsS55.drew|apply IsS55.set_1)|exact HI0.out));(case side2=>repeat (first|(with_reducible first|exact HB.out|apply below_alloc|apply pw_below_drewN|apply below_drew1|refine below_set ?_ (IsS55.ge HI0.out))|exact HB.out));(case side3=>repeat (first|exact (Kd.R_reads' HO199.out).2.2|(with_reducible refine Kd.C_alloc ?_ _)|(with_reducible refine Kd.C_drewN ?_ _)|(with_reducible refine Kd.C_drew ?_)));(case side4=>exact (Kd.R_reads' HO199.out).2.1);(case side5=>exact far_slice (IsS55.own_ne HI0.out HO199.out (by decide)));rintro e w6 ⟨rfl,hi,hb,hk⟩;refine ⟨_,rfl,?_⟩;have n0_:=Aside0.mk (Kd.R_mono (Kd.R_keep (IsS55.apart (show IsS55 w0 _ g s0_0 s0_1 from by repeat (first|(with_reducible first|exact HI0.out|apply IsS55.alloc|apply IsS55.drewN|apply IsS55.drew|apply IsS55.set_1)|exact HI0.out)) (by (with_reducible repeat (first|apply Kd.R_alloc|apply Kd.R_drewN|apply Kd.R_drew));exact HO199.out) (by decide)) hk (fun _ h=>h.2)) (fun _ h=>h.1));have n1_:=Aside0.mk (KeepBut.trans (by repeat (first|(with_reducible first|exact HK.out|apply KeepBut.set_|apply keep_drewN|apply keep_drew|apply keep_alloc)|exact HK.out)) hk (.inl rfl));have n2_:=Aside0.mk (hb);have n3_:=Aside0.mk (hi);clear HO199;clear HK;clear HB;clear HI0;have HO199:=n0_;have HK:=n1_;have HB:=n2_;have HI0:=n3_;clear n0_ n1_ n2_ n3_;(try clear hb);(try clear hb2);(try clear hk);(try clear hi)))
 go_ret
 exact ⟨by first|rfl|(simp <;> rfl)|(simp [*] <;> rfl),by repeat (first|(with_reducible first|exact HI0.out|apply IsS55.alloc|apply IsS55.drewN|apply IsS55.drew|apply IsS55.set_1)|exact HI0.out),by repeat (first|(with_reducible first|exact HB.out|apply below_alloc|apply pw_below_drewN|apply below_drew1|refine below_set ?_ (IsS55.ge HI0.out))|exact HB.out),by repeat (first|(with_reducible first|exact HK.out|apply KeepBut.set_|apply keep_drewN|apply keep_drew|apply keep_alloc)|exact HK.out)⟩

/-! ### spec_DrawAddrRead: function 17 -/
def spec_DrawAddrRead.l0:Nat → ByteArray → Int → List Int → Int → Option (ByteArray)
 | 0,_,_,_,_=>none
 | k + 1,x4,x5,x205000,x205001=>if x5 > 0 then (if x4.size + 1 ≤ 9223372036854775807 then ((spec_l71Part.f k x205000 x205001).bind fun bt216=>(if (x4 ++ (⟨#[47]⟩:ByteArray)).size + bt216.1.size ≤ 9223372036854775807 then (spec_DrawAddrRead.l0 k ((x4 ++ (⟨#[47]⟩:ByteArray)) ++ bt216.1) (wrap64 (x5 - 1)) x205000 bt216.2) else (none))) else (none)) else ((spec_l6Rd_of.f k x205000 x205001 (([(⟨#[]⟩:ByteArray),(⟨#[]⟩:ByteArray),(⟨#[47]⟩:ByteArray),(⟨#[63,97]⟩:ByteArray),(⟨#[63,37,54,49,61,98]⟩:ByteArray),(⟨#[35,120]⟩:ByteArray),(⟨#[63,97,63,98]⟩:ByteArray),(⟨#[63,97,35,98]⟩:ByteArray)]:List ByteArray))).bind fun bt221=>(if x4.size + bt221.1.size ≤ 9223372036854775807 then (some (x4 ++ bt221.1)) else (none)))
def spec_DrawAddrRead.f (k:Nat) (l0:List Int):Option (ByteArray):=(spec_l6Open.f l0).bind fun bt202=>((spec_l6Rd_pick.f k bt202.1 bt202.2 3).bind fun bt205=>(if bt205.1 = 0 then ((spec_l71Ref.f k bt202.1 bt205.2).bind fun bt207=>(some bt207.1)) else ((spec_l6Rd_of.f k bt202.1 bt205.2 (([(⟨#[97,98]⟩:ByteArray),(⟨#[67,68]⟩:ByteArray),(⟨#[101]⟩:ByteArray),(⟨#[102,111,120]⟩:ByteArray),(⟨#[97,49]⟩:ByteArray),(⟨#[]⟩:ByteArray)]:List ByteArray))).bind fun bt212=>(if 2 + bt212.1.size ≤ 9223372036854775807 then ((spec_l6Rd_pick.f k bt202.1 bt212.2 5).bind fun bt214=>(spec_DrawAddrRead.l0 k ((⟨#[47,47]⟩:ByteArray) ++ bt212.1) bt214.1 bt202.1 bt214.2)) else (none)))))
theorem spec_DrawAddrRead.mono_l:∀ k,(∀ y0 y1 y2 y3,LeO (spec_DrawAddrRead.l0 k y0 y1 y2 y3) (spec_DrawAddrRead.l0 (k + 1) y0 y1 y2 y3))
 | 0=>fun _ _ _ _ r h=>by simp [spec_DrawAddrRead.l0] at h
 | k + 1=>by
  have ih0:=spec_DrawAddrRead.mono_l k
  ·intro y0 y1 y2 y3
   unfold spec_DrawAddrRead.l0
   repeat' first
   | (with_reducible exact ih0 _ _ _ _)
   | (with_reducible exact spec_l6Rd_of.mono _ _ _ _)
   | (with_reducible exact spec_l6Rd_pick.mono _ _ _ _)
   | (with_reducible exact spec_l71Part.mono _ _ _)
   | (with_reducible exact spec_l71Ref.mono _ _ _)
   | (with_reducible exact LeO.refl _)
   | (with_reducible exact LeO.none _)
   | (with_reducible refine LeO.ite ?_ ?_)
   | (with_reducible refine LeO.bind ?_ (fun _=>?_))
   | exact ih0 _ _ _ _
   | exact spec_l6Rd_of.mono _ _ _ _
   | exact spec_l6Rd_pick.mono _ _ _ _
   | exact spec_l71Part.mono _ _ _
   | exact spec_l71Ref.mono _ _ _
   | exact LeO.none _
   | refine LeO.ite ?_ ?_
   | refine LeO.bind ?_ (fun _=>?_)
theorem spec_DrawAddrRead.mono:∀ a0 k,LeO (spec_DrawAddrRead.f k a0) (spec_DrawAddrRead.f (k + 1) a0):=by
 intro a0 k
 have ih0:=spec_DrawAddrRead.mono_l k
 unfold spec_DrawAddrRead.f
 repeat' first
   | (with_reducible exact ih0 _ _ _ _)
   | (with_reducible exact spec_l6Rd_of.mono _ _ _ _)
   | (with_reducible exact spec_l6Rd_pick.mono _ _ _ _)
   | (with_reducible exact spec_l71Part.mono _ _ _)
   | (with_reducible exact spec_l71Ref.mono _ _ _)
   | (with_reducible exact LeO.refl _)
   | (with_reducible exact LeO.none _)
   | (with_reducible refine LeO.ite ?_ ?_)
   | (with_reducible refine LeO.bind ?_ (fun _=>?_))
   | exact ih0 _ _ _ _
   | exact spec_l6Rd_of.mono _ _ _ _
   | exact spec_l6Rd_pick.mono _ _ _ _
   | exact spec_l71Part.mono _ _ _
   | exact spec_l71Ref.mono _ _ _
   | exact LeO.none _
   | refine LeO.ite ?_ ?_
   | refine LeO.bind ?_ (fun _=>?_)
theorem spec_DrawAddrRead.calls (k:Nat) (A0:Option Addr) (c0:Nat) (l0:List Int) (r:ByteArray) (w:World) (hr0:Kd.C (Kd.int .u8) w A0 l0.length l0) (hc0:l0.length ≤ c0) (h:spec_DrawAddrRead.f k l0 = some r) :
  Calls Tryd.prog 17 #[.slice A0 l0.length c0] w fun e w'=>e = .returned (.string r) ∧ Below w.heap.size w w':=by
 have HR0:=Aside0.mk hr0
 have HC0:=Aside0.mk hc0
 clear hr0 hc0
 have HB:=Aside0.mk (Below.refl w.heap.size w)
 have H:((spec_l6Open.f l0).bind fun bt202=>((spec_l6Rd_pick.f k bt202.1 bt202.2 3).bind fun bt205=>(if bt205.1 = 0 then ((spec_l71Ref.f k bt202.1 bt205.2).bind fun bt207=>(some bt207.1)) else ((spec_l6Rd_of.f k bt202.1 bt205.2 (([(⟨#[97,98]⟩:ByteArray),(⟨#[67,68]⟩:ByteArray),(⟨#[101]⟩:ByteArray),(⟨#[102,111,120]⟩:ByteArray),(⟨#[97,49]⟩:ByteArray),(⟨#[]⟩:ByteArray)]:List ByteArray))).bind fun bt212=>(if 2 + bt212.1.size ≤ 9223372036854775807 then ((spec_l6Rd_pick.f k bt202.1 bt212.2 5).bind fun bt214=>(spec_DrawAddrRead.l0 k ((⟨#[47,47]⟩:ByteArray) ++ bt212.1) bt214.1 bt202.1 bt214.2)) else (none)))))) = some r:=h
 clear h
 replace H:=Option.bind_eq_some_iff.mp H
 obtain ⟨⟨t202,t203⟩,A20,H⟩:=H
 replace H:((spec_l6Rd_pick.f k t202 t203 3).bind fun bt205=>(if bt205.1 = 0 then ((spec_l71Ref.f k t202 bt205.2).bind fun bt207=>(some bt207.1)) else ((spec_l6Rd_of.f k t202 bt205.2 (([(⟨#[97,98]⟩:ByteArray),(⟨#[67,68]⟩:ByteArray),(⟨#[101]⟩:ByteArray),(⟨#[102,111,120]⟩:ByteArray),(⟨#[97,49]⟩:ByteArray),(⟨#[]⟩:ByteArray)]:List ByteArray))).bind fun bt212=>(if 2 + bt212.1.size ≤ 9223372036854775807 then ((spec_l6Rd_pick.f k t202 bt212.2 5).bind fun bt214=>(spec_DrawAddrRead.l0 k ((⟨#[47,47]⟩:ByteArray) ++ bt212.1) bt214.1 t202 bt214.2)) else (none))))) = some r:=H
 have A2:=Aside0.mk A20
 clear A20
 replace H:=Option.bind_eq_some_iff.mp H
 obtain ⟨⟨t205,t206⟩,A30,H⟩:=H
 replace H:(if t205 = 0 then ((spec_l71Ref.f k t202 t206).bind fun bt207=>(some bt207.1)) else ((spec_l6Rd_of.f k t202 t206 (([(⟨#[97,98]⟩:ByteArray),(⟨#[67,68]⟩:ByteArray),(⟨#[101]⟩:ByteArray),(⟨#[102,111,120]⟩:ByteArray),(⟨#[97,49]⟩:ByteArray),(⟨#[]⟩:ByteArray)]:List ByteArray))).bind fun bt212=>(if 2 + bt212.1.size ≤ 9223372036854775807 then ((spec_l6Rd_pick.f k t202 bt212.2 5).bind fun bt214=>(spec_DrawAddrRead.l0 k ((⟨#[47,47]⟩:ByteArray) ++ bt212.1) bt214.1 t202 bt214.2)) else (none)))) = some r:=H
 have A3:=Aside0.mk A30
 clear A30
 by_cases c4:t205 = 0
 ·rw [if_pos c4] at H
  have c4b0:(t205 == 0) = true:=beq_iff_eq.mpr c4
  have c4b1:(t205 != 0) = false:=bne_eq_false_iff_eq.mpr c4
  clear c4
  replace H:=Option.bind_eq_some_iff.mp H
  obtain ⟨⟨t207,t208⟩,A50,H⟩:=H
  replace H:(some t207) = some r:=H
  have A5:=Aside0.mk A50
  clear A50
  obtain rfl:=Option.some.inj H
  go_enter Tryd.func17,Tryd.ntmps17
  go_wp2_with (first|((with_reducible refine gate_callee (f:=27) rfl ?_);refine goesL_ (some 7) rfl rfl Tryd.func27 (by kernel_rfl) rfl #[.slice A0 l0.length c0] rfl (by (try simp only [List.map_toArray,List.map_cons,List.map_nil]);first|done|rfl|(simp only [List.length_drop,List.length_take];rfl)) ?_;(with_reducible refine (spec_l6Open.calls _ _ l0 t202 t203 w _ ?side1 ?side2 ?side3 A2.out).mono ?_);(case side1=>repeat (first|(with_reducible first|exact HB.out|apply below_alloc|apply pw_below_drewN|apply below_drew1)|exact HB.out));(case side2=>exact HR0.out);(case side3=>exact HC0.out);rintro e w6 ⟨g204,rfl,hi,hb,hb2⟩;refine ⟨_,rfl,?_⟩;have n0_:=Aside0.mk (hb);have n1_:=Aside0.mk (hi);clear HB;have HB:=n0_;have HI204:=n1_;clear n0_ n1_;(try clear hb);(try clear hb2);(try clear hk);(try clear hi))|((with_reducible refine gate_callee (f:=32) rfl ?_);refine goesL_ (some 9) rfl rfl Tryd.func32 (by kernel_rfl) rfl #[.pointer (some ⟨g204,0,none⟩), .int .i64 3] rfl (by (try simp only [List.map_toArray,List.map_cons,List.map_nil]);first|done|rfl|(simp only [List.length_drop,List.length_take];rfl)) ?_;(with_reducible refine (spec_l6Rd_pick.calls k g204 t202 t203 3 t205 t206 w _ ?side1 ?side2 A3.out).mono ?_);(case side1=>repeat (first|(with_reducible first|exact HI204.out|apply IsS55.alloc|apply IsS55.drewN|apply IsS55.drew|apply IsS55.set_1)|exact HI204.out));(case side2=>repeat (first|(with_reducible first|exact HB.out|apply below_alloc|apply pw_below_drewN|apply below_drew1|refine below_set ?_ (IsS55.ge HI204.out))|exact HB.out));rintro e w7 ⟨rfl,hi,hb,hk⟩;refine ⟨_,rfl,?_⟩;have n0_:=Aside0.mk (hb);have n1_:=Aside0.mk (hi);clear HB;clear HI204;have HB:=n0_;have HI204:=n1_;clear n0_ n1_;(try clear hb);(try clear hb2);(try clear hk);(try clear hi))|((with_reducible refine gate_callee (f:=33) rfl ?_);refine goesL_ (some 12) rfl rfl Tryd.func33 (by kernel_rfl) rfl #[.pointer (some ⟨g204,0,none⟩)] rfl (by (try simp only [List.map_toArray,List.map_cons,List.map_nil]);first|done|rfl|(simp only [List.length_drop,List.length_take];rfl)) ?_;(with_reducible refine (spec_l71Ref.calls k g204 t202 t206 t207 t208 w _ ?side1 ?side2 A5.out).mono ?_);(case side1=>repeat (first|(with_reducible first|exact HI204.out|apply IsS55.alloc|apply IsS55.drewN|apply IsS55.drew|apply IsS55.set_1)|exact HI204.out));(case side2=>repeat (first|(with_reducible first|exact HB.out|apply below_alloc|apply pw_below_drewN|apply below_drew1|refine below_set ?_ (IsS55.ge HI204.out))|exact HB.out));rintro e w8 ⟨rfl,hi,hb,hk⟩;refine ⟨_,rfl,?_⟩;have n0_:=Aside0.mk (hb);have n1_:=Aside0.mk (hi);clear HB;clear HI204;have HB:=n0_;have HI204:=n1_;clear n0_ n1_;(try clear hb);(try clear hb2);(try clear hk);(try clear hi)))
  go_ret
  exact ⟨by first|rfl|(simp <;> rfl)|(simp [*] <;> rfl),by repeat (first|(with_reducible first|exact HB.out|apply below_alloc|apply pw_below_drewN|apply below_drew1|refine below_set ?_ (IsS55.ge HI204.out))|exact HB.out)⟩
 ·rw [if_neg c4] at H
  have c4b0:(t205 == 0) = false:=beq_eq_false_iff_ne.mpr c4
  have c4b1:(t205 != 0) = true:=bne_iff_ne.mpr c4
  obtain ⟨y209,hy209⟩:∃ y_:List ByteArray,y_ = (([(⟨#[97,98]⟩:ByteArray),(⟨#[67,68]⟩:ByteArray),(⟨#[101]⟩:ByteArray),(⟨#[102,111,120]⟩:ByteArray),(⟨#[97,49]⟩:ByteArray),(⟨#[]⟩:ByteArray)]:List ByteArray)):=⟨_,rfl⟩
  replace H:((spec_l6Rd_of.f k t202 t206 y209).bind fun bt212=>(if 2 + bt212.1.size ≤ 9223372036854775807 then ((spec_l6Rd_pick.f k t202 bt212.2 5).bind fun bt214=>(spec_DrawAddrRead.l0 k ((⟨#[47,47]⟩:ByteArray) ++ bt212.1) bt214.1 t202 bt214.2)) else (none))) = some r:=by first|(rw [hy209];with_reducible exact H)|(have H2_:=(Option.bind_some _ _).symm.trans H;rw [hy209];with_reducible exact H2_)|(have H2_:=(Option.bind_some _ _).symm.trans H;with_reducible exact H2_)|with_reducible exact H|(rw [hy209];exact H)|exact H
  have Ny209:=Aside0.mk hy209
  clear hy209
  replace H:=Option.bind_eq_some_iff.mp H
  obtain ⟨⟨t212,t213⟩,A90,H⟩:=H
  replace H:(if 2 + t212.size ≤ 9223372036854775807 then ((spec_l6Rd_pick.f k t202 t213 5).bind fun bt214=>(spec_DrawAddrRead.l0 k ((⟨#[47,47]⟩:ByteArray) ++ t212) bt214.1 t202 bt214.2)) else (none)) = some r:=H
  have A9:=Aside0.mk A90
  clear A90
  by_cases c10:2 + t212.size ≤ 9223372036854775807
  ·rw [if_pos c10] at H
   have c10b0:=eq_true c10
   have c10b1:=decide_eq_true c10
   try have c10b2:(9223372036854775807 < 2 + t212.size) = False:=eq_false (Nat.not_lt.2 c10)
   replace H:=Option.bind_eq_some_iff.mp H
   obtain ⟨⟨t214,t215⟩,A110,H⟩:=H
   replace H:(spec_DrawAddrRead.l0 k ((⟨#[47,47]⟩:ByteArray) ++ t212) t214 t202 t215) = some r:=H
   have A11:=Aside0.mk A110
   clear A110
   have H':=Aside0.mk H
   clear H
   go_enter Tryd.func17,Tryd.ntmps17
   go_wp2_with (first|((with_reducible refine gate_callee (f:=27) rfl ?_);refine goesL_ (some 7) rfl rfl Tryd.func27 (by kernel_rfl) rfl #[.slice A0 l0.length c0] rfl (by (try simp only [List.map_toArray,List.map_cons,List.map_nil]);first|done|rfl|(simp only [List.length_drop,List.length_take];rfl)) ?_;(with_reducible refine (spec_l6Open.calls _ _ l0 t202 t203 w _ ?side1 ?side2 ?side3 A2.out).mono ?_);(case side1=>repeat (first|(with_reducible first|exact HB.out|apply below_alloc|apply pw_below_drewN|apply below_drew1)|exact HB.out));(case side2=>exact HR0.out);(case side3=>exact HC0.out);rintro e w12 ⟨g204,rfl,hi,hb,hb2⟩;refine ⟨_,rfl,?_⟩;have n0_:=Aside0.mk (hb);have n1_:=Aside0.mk (hi);clear HB;have HB:=n0_;have HI204:=n1_;clear n0_ n1_;(try clear hb);(try clear hb2);(try clear hk);(try clear hi))|((with_reducible refine gate_callee (f:=32) rfl ?_);refine goesL_ (some 9) rfl rfl Tryd.func32 (by kernel_rfl) rfl #[.pointer (some ⟨g204,0,none⟩), .int .i64 3] rfl (by (try simp only [List.map_toArray,List.map_cons,List.map_nil]);first|done|rfl|(simp only [List.length_drop,List.length_take];rfl)) ?_;(with_reducible refine (spec_l6Rd_pick.calls k g204 t202 t203 3 t205 t206 w _ ?side1 ?side2 A3.out).mono ?_);(case side1=>repeat (first|(with_reducible first|exact HI204.out|apply IsS55.alloc|apply IsS55.drewN|apply IsS55.drew|apply IsS55.set_1)|exact HI204.out));(case side2=>repeat (first|(with_reducible first|exact HB.out|apply below_alloc|apply pw_below_drewN|apply below_drew1|refine below_set ?_ (IsS55.ge HI204.out))|exact HB.out));rintro e w13 ⟨rfl,hi,hb,hk⟩;refine ⟨_,rfl,?_⟩;have n0_:=Aside0.mk (hb);have n1_:=Aside0.mk (hi);clear HB;clear HI204;have HB:=n0_;have HI204:=n1_;clear n0_ n1_;(try clear hb);(try clear hb2);(try clear hk);(try clear hi))|((with_reducible refine gate_dst (N:=14) rfl ?_);refine Kd.R_lit Kd.string _ 9 ?hg (N:=14) ?hd (xs:=([(⟨#[97,98]⟩:ByteArray),(⟨#[67,68]⟩:ByteArray),(⟨#[101]⟩:ByteArray),(⟨#[102,111,120]⟩:ByteArray),(⟨#[97,49]⟩:ByteArray),(⟨#[]⟩:ByteArray)]:List ByteArray)) (inner:=[.string (⟨#[97,98]⟩:ByteArray), .string (⟨#[67,68]⟩:ByteArray), .string (⟨#[101]⟩:ByteArray), .string (⟨#[102,111,120]⟩:ByteArray), .string (⟨#[97,49]⟩:ByteArray), .string (⟨#[]⟩:ByteArray)]) (ok:=fun _=>True) (okp:=fun _=>True) ?hr ?hp (fun _ hk=>hk) trivial (Below.refl _ _) (Nat.le_refl _) (by simp) ?_;(case hd=>rfl);(case hg=>rfl);(case hr=>first|(go_simp;done)|(go_simp;rfl));(case hp=>exact (Reps.one (show Kd.M Kd.string _ _ _ (⟨#[97,98]⟩:ByteArray) [.string (⟨#[97,98]⟩:ByteArray)] from rfl) (Reps.one (show Kd.M Kd.string _ _ _ (⟨#[67,68]⟩:ByteArray) [.string (⟨#[67,68]⟩:ByteArray)] from rfl) (Reps.one (show Kd.M Kd.string _ _ _ (⟨#[101]⟩:ByteArray) [.string (⟨#[101]⟩:ByteArray)] from rfl) (Reps.one (show Kd.M Kd.string _ _ _ (⟨#[102,111,120]⟩:ByteArray) [.string (⟨#[102,111,120]⟩:ByteArray)] from rfl) (Reps.one (show Kd.M Kd.string _ _ _ (⟨#[97,49]⟩:ByteArray) [.string (⟨#[97,49]⟩:ByteArray)] from rfl) (Reps.one (show Kd.M Kd.string _ _ _ (⟨#[]⟩:ByteArray) [.string (⟨#[]⟩:ByteArray)] from rfl) (Reps.none _ _))))))));intro v210 w14 ho15 hb hg_ hnew_;clear hg_ hnew_;(first|rw [← Ny209.out] at ho15|(simp only [Int.reduceToNat] at ho15;rw [← Ny209.out] at ho15));have n0_:=Aside0.mk (Kd.R_lower ho15 (below_size (by repeat (first|(with_reducible first|exact HB.out|apply below_alloc|apply pw_below_drewN|apply below_drew1|refine below_set ?_ (IsS55.ge HI204.out))|exact HB.out))));have n1_:=Aside0.mk (IsS55.below (by repeat (first|(with_reducible first|exact HI204.out|apply IsS55.alloc|apply IsS55.drewN|apply IsS55.drew|apply IsS55.set_1)|exact HI204.out)) hb);have n2_:=Aside0.mk (below_step (by repeat (first|(with_reducible first|exact HB.out|apply below_alloc|apply pw_below_drewN|apply below_drew1|refine below_set ?_ (IsS55.ge HI204.out))|exact HB.out)) hb);clear HI204;clear HB;have HO211:=n0_;have HI204:=n1_;have HB:=n2_;clear n0_ n1_ n2_;clear hb ho15;obtain ⟨Ao16,co16,eo16⟩:=Kd.R_slice HO211.out;subst eo16)|((with_reducible refine gate_callee (f:=34) rfl ?_);refine goesL_ (some 15) rfl rfl Tryd.func34 (by kernel_rfl) rfl #[.pointer (some ⟨g204,0,none⟩), .slice Ao16 y209.length co16] rfl (by (try simp only [List.map_toArray,List.map_cons,List.map_nil]);first|done|rfl|(simp only [List.length_drop,List.length_take];rfl)) ?_;(with_reducible refine (spec_l6Rd_of.calls k g204 t202 t206 _ _ y209 t212 t213 w _ ?side1 ?side2 ?side3 ?side4 ?side5 A9.out).mono ?_);(case side1=>repeat (first|(with_reducible first|exact HI204.out|apply IsS55.alloc|apply IsS55.drewN|apply IsS55.drew|apply IsS55.set_1)|exact HI204.out));(case side2=>repeat (first|(with_reducible first|exact HB.out|apply below_alloc|apply pw_below_drewN|apply below_drew1|refine below_set ?_ (IsS55.ge HI204.out))|exact HB.out));(case side3=>repeat (first|exact (Kd.R_reads' HO211.out).2.2|(with_reducible refine Kd.C_alloc ?_ _)|(with_reducible refine Kd.C_drewN ?_ _)|(with_reducible refine Kd.C_drew ?_)));(case side4=>exact (Kd.R_reads' HO211.out).2.1);(case side5=>exact far_slice (IsS55.own_ne HI204.out HO211.out (by decide)));rintro e w17 ⟨rfl,hi,hb,hk⟩;refine ⟨_,rfl,?_⟩;have n0_:=Aside0.mk (Kd.R_mono (Kd.R_keep (IsS55.apart (show IsS55 w _ g204 t202 t206 from by repeat (first|(with_reducible first|exact HI204.out|apply IsS55.alloc|apply IsS55.drewN|apply IsS55.drew|apply IsS55.set_1)|exact HI204.out)) (by (with_reducible repeat (first|apply Kd.R_alloc|apply Kd.R_drewN|apply Kd.R_drew));exact HO211.out) (by decide)) hk (fun _ h=>h.2)) (fun _ h=>h.1));have n1_:=Aside0.mk (hb);have n2_:=Aside0.mk (hi);clear HO211;clear HB;clear HI204;have HO211:=n0_;have HB:=n1_;have HI204:=n2_;clear n0_ n1_ n2_;(try clear hb);(try clear hb2);(try clear hk);(try clear hi))|((with_reducible refine gate_callee (f:=32) rfl ?_);refine goesL_ (some 18) rfl rfl Tryd.func32 (by kernel_rfl) rfl #[.pointer (some ⟨g204,0,none⟩), .int .i64 5] rfl (by (try simp only [List.map_toArray,List.map_cons,List.map_nil]);first|done|rfl|(simp only [List.length_drop,List.length_take];rfl)) ?_;(with_reducible refine (spec_l6Rd_pick.calls k g204 t202 t213 5 t214 t215 w _ ?side1 ?side2 A11.out).mono ?_);(case side1=>repeat (first|(with_reducible first|exact HI204.out|apply IsS55.alloc|apply IsS55.drewN|apply IsS55.drew|apply IsS55.set_1)|exact HI204.out));(case side2=>repeat (first|(with_reducible first|exact HB.out|apply below_alloc|apply pw_below_drewN|apply below_drew1|refine below_set ?_ (IsS55.ge HI204.out))|exact HB.out));rintro e w18 ⟨rfl,hi,hb,hk⟩;refine ⟨_,rfl,?_⟩;have n0_:=Aside0.mk (Kd.R_mono (Kd.R_keep (IsS55.apart (show IsS55 w _ g204 t202 t213 from by repeat (first|(with_reducible first|exact HI204.out|apply IsS55.alloc|apply IsS55.drewN|apply IsS55.drew|apply IsS55.set_1)|exact HI204.out)) (by (with_reducible repeat (first|apply Kd.R_alloc|apply Kd.R_drewN|apply Kd.R_drew));exact HO211.out) (by decide)) hk (fun _ h=>h.2)) (fun _ h=>h.1));have n1_:=Aside0.mk (hb);have n2_:=Aside0.mk (hi);clear HO211;clear HB;clear HI204;have HO211:=n0_;have HB:=n1_;have HI204:=n2_;clear n0_ n1_ n2_;(try clear hb);(try clear hb2);(try clear hk);(try clear hi)))
   go_loopg [4,5] k (fun kq v4 v5 w'=>∃ (x4_1:ByteArray) (x5_1:Int) (x205001_1:Int),v4 = .string x4_1 ∧ v5 = .int .i64 x5_1 ∧ Aside0 (spec_DrawAddrRead.l0 kq x4_1 x5_1 t202 x205001_1 = some r) ∧ Aside0 (kq ≤ k) ∧ Aside0 (IsS55 w w' g204 t202 x205001_1) ∧ Aside0 (Below w.heap.size w w'))
   case atStart=>exact ⟨((⟨#[47,47]⟩:ByteArray) ++ t212),(t214),(t215),(by first|rfl|(simp;done)|(simp only [i64_w,i32_w];done)|(simp only [i64_w,i32_w];rfl)|(simp [*];done)|(simp [emp_bne,emp_beq];done)),(by first|rfl|(simp;done)|(simp only [i64_w,i32_w];done)|(simp only [i64_w,i32_w];rfl)|(simp [*];done)|(simp [emp_bne,emp_beq];done)),H',⟨Nat.le_refl _⟩,⟨by repeat (first|(with_reducible first|exact HI204.out|apply IsS55.alloc|apply IsS55.drewN|apply IsS55.drew|apply IsS55.set_1)|exact HI204.out)⟩,⟨by repeat (first|(with_reducible first|exact HB.out|apply below_alloc|apply pw_below_drewN|apply below_drew1|refine below_set ?_ (IsS55.ge HI204.out))|exact HB.out)⟩⟩
   case round =>
    clear H'
    try clear c1
    try clear c2
    try clear p2
    try clear c3
    try clear c4
    try clear c4b0
    try clear c4b1
    try clear c10
    try clear c10b0
    try clear c10b1
    try clear c10b2
    try clear c17
    obtain ⟨x4_1,x5_1,x205001_1,rfl,rfl,HA,HK1,HI204,HB⟩:=hrel
    cases gk with
    | zero=>exact absurd HA.out (by simp [spec_DrawAddrRead.l0])
    | succ k1 =>
     have H:=HA.out
     clear HA
     simp only [spec_DrawAddrRead.l0] at H
     by_cases c19:x5_1 > 0
     ·rw [if_pos c19] at H
      have c19b0:decide (0 < x5_1) = true:=decide_eq_true c19
      clear c19
      by_cases c20:x4_1.size + 1 ≤ 9223372036854775807
      ·rw [if_pos c20] at H
       have c20b0:=eq_true c20
       have c20b1:=decide_eq_true c20
       try have c20b2:(9223372036854775807 < x4_1.size + 1) = False:=eq_false (Nat.not_lt.2 c20)
       replace H:=Option.bind_eq_some_iff.mp H
       obtain ⟨⟨t216,t217⟩,A210,H⟩:=H
       replace H:(if (x4_1 ++ (⟨#[47]⟩:ByteArray)).size + t216.size ≤ 9223372036854775807 then (spec_DrawAddrRead.l0 k1 ((x4_1 ++ (⟨#[47]⟩:ByteArray)) ++ t216) (wrap64 (x5_1 - 1)) t202 t217) else (none)) = some r:=H
       have A21:=Aside0.mk A210
       clear A210
       by_cases c22:(x4_1 ++ (⟨#[47]⟩:ByteArray)).size + t216.size ≤ 9223372036854775807
       ·rw [if_pos c22] at H
        have c22b0:=eq_true c22
        have c22b1:=decide_eq_true c22
        try have c22b3:(9223372036854775807 < x4_1.size + 1 + t216.size) = False:=eq_false (Nat.not_lt.2 (by have h_:=c22;simp only [ByteArray.size_append] at h_;exact h_))
        try have c22b2:(9223372036854775807 < (x4_1 ++ (⟨#[47]⟩:ByteArray)).size + t216.size) = False:=eq_false (Nat.not_lt.2 c22)
        have H':=Aside0.mk H
        clear H
        go_wp2_with (first|((with_reducible refine gate_callee (f:=35) rfl ?_);refine goesL_ (some 26) rfl rfl Tryd.func35 (by kernel_rfl) rfl #[.pointer (some ⟨g204,0,none⟩)] rfl (by (try simp only [List.map_toArray,List.map_cons,List.map_nil]);first|done|rfl|(simp only [List.length_drop,List.length_take];rfl)) ?_;(with_reducible refine (spec_l71Part.calls k1 g204 t202 x205001_1 t216 t217 w _ ?side1 ?side2 A21.out).mono ?_);(case side1=>repeat (first|(with_reducible first|exact HI204.out|apply IsS55.alloc|apply IsS55.drewN|apply IsS55.drew|apply IsS55.set_1)|exact HI204.out));(case side2=>repeat (first|(with_reducible first|exact HB.out|apply below_alloc|apply pw_below_drewN|apply below_drew1|refine below_set ?_ (IsS55.ge HI204.out))|exact HB.out));rintro e w23 ⟨rfl,hi,hb,hk⟩;refine ⟨_,rfl,?_⟩;have n0_:=Aside0.mk (hb);have n1_:=Aside0.mk (hi);clear HB;clear HI204;have HB:=n0_;have HI204:=n1_;clear n0_ n1_;(try clear hb);(try clear hb2);(try clear hk);(try clear hi)))
        go_roundg k1
        case measure=>have:=HK1.out;omega
        case rel=>exact ⟨((x4_1 ++ (⟨#[47]⟩:ByteArray)) ++ t216),(wrap64 (x5_1 - 1)),(t217),(by first|rfl|(simp;done)|(simp only [i64_w,i32_w];done)|(simp only [i64_w,i32_w];rfl)|(simp [*];done)|(simp [emp_bne,emp_beq];done)),(by first|rfl|(simp;done)|(simp only [i64_w,i32_w];done)|(simp only [i64_w,i32_w];rfl)|(simp [*];done)|(simp [emp_bne,emp_beq];done)),H',⟨by have:=HK1.out;omega⟩,⟨by repeat (first|(with_reducible first|exact HI204.out|apply IsS55.alloc|apply IsS55.drewN|apply IsS55.drew|apply IsS55.set_1)|exact HI204.out)⟩,⟨by repeat (first|(with_reducible first|exact HB.out|apply below_alloc|apply pw_below_drewN|apply below_drew1|refine below_set ?_ (IsS55.ge HI204.out))|exact HB.out)⟩⟩
       ·rw [if_neg c22] at H
        exact absurd H (by simp)
      ·rw [if_neg c20] at H
       exact absurd H (by simp)
     ·rw [if_neg c19] at H
      have c19b0:decide (0 < x5_1) = false:=decide_eq_false c19
      clear c19
      obtain ⟨y218,hy218⟩:∃ y_:List ByteArray,y_ = (([(⟨#[]⟩:ByteArray),(⟨#[]⟩:ByteArray),(⟨#[47]⟩:ByteArray),(⟨#[63,97]⟩:ByteArray),(⟨#[63,37,54,49,61,98]⟩:ByteArray),(⟨#[35,120]⟩:ByteArray),(⟨#[63,97,63,98]⟩:ByteArray),(⟨#[63,97,35,98]⟩:ByteArray)]:List ByteArray)):=⟨_,rfl⟩
      replace H:((spec_l6Rd_of.f k1 t202 x205001_1 y218).bind fun bt221=>(if x4_1.size + bt221.1.size ≤ 9223372036854775807 then (some (x4_1 ++ bt221.1)) else (none))) = some r:=by first|(rw [hy218];with_reducible exact H)|(have H2_:=(Option.bind_some _ _).symm.trans H;rw [hy218];with_reducible exact H2_)|(have H2_:=(Option.bind_some _ _).symm.trans H;with_reducible exact H2_)|with_reducible exact H|(rw [hy218];exact H)|exact H
      have Ny218:=Aside0.mk hy218
      clear hy218
      replace H:=Option.bind_eq_some_iff.mp H
      obtain ⟨⟨t221,t222⟩,A240,H⟩:=H
      replace H:(if x4_1.size + t221.size ≤ 9223372036854775807 then (some (x4_1 ++ t221)) else (none)) = some r:=H
      have A24:=Aside0.mk A240
      clear A240
      by_cases c25:x4_1.size + t221.size ≤ 9223372036854775807
      ·rw [if_pos c25] at H
       have c25b0:=eq_true c25
       have c25b1:=decide_eq_true c25
       try have c25b2:(9223372036854775807 < x4_1.size + t221.size) = False:=eq_false (Nat.not_lt.2 c25)
       obtain rfl:=Option.some.inj H
       go_wp2_with (first|((with_reducible refine gate_dst (N:=30) rfl ?_);refine Kd.R_lit Kd.string _ 9 ?hg (N:=30) ?hd (xs:=([(⟨#[]⟩:ByteArray),(⟨#[]⟩:ByteArray),(⟨#[47]⟩:ByteArray),(⟨#[63,97]⟩:ByteArray),(⟨#[63,37,54,49,61,98]⟩:ByteArray),(⟨#[35,120]⟩:ByteArray),(⟨#[63,97,63,98]⟩:ByteArray),(⟨#[63,97,35,98]⟩:ByteArray)]:List ByteArray)) (inner:=[.string (⟨#[]⟩:ByteArray), .string (⟨#[]⟩:ByteArray), .string (⟨#[47]⟩:ByteArray), .string (⟨#[63,97]⟩:ByteArray), .string (⟨#[63,37,54,49,61,98]⟩:ByteArray), .string (⟨#[35,120]⟩:ByteArray), .string (⟨#[63,97,63,98]⟩:ByteArray), .string (⟨#[63,97,35,98]⟩:ByteArray)]) (ok:=fun _=>True) (okp:=fun _=>True) ?hr ?hp (fun _ hk=>hk) trivial (Below.refl _ _) (Nat.le_refl _) (by simp) ?_;(case hd=>rfl);(case hg=>rfl);(case hr=>first|(go_simp;done)|(go_simp;rfl));(case hp=>exact (Reps.one (show Kd.M Kd.string _ _ _ (⟨#[]⟩:ByteArray) [.string (⟨#[]⟩:ByteArray)] from rfl) (Reps.one (show Kd.M Kd.string _ _ _ (⟨#[]⟩:ByteArray) [.string (⟨#[]⟩:ByteArray)] from rfl) (Reps.one (show Kd.M Kd.string _ _ _ (⟨#[47]⟩:ByteArray) [.string (⟨#[47]⟩:ByteArray)] from rfl) (Reps.one (show Kd.M Kd.string _ _ _ (⟨#[63,97]⟩:ByteArray) [.string (⟨#[63,97]⟩:ByteArray)] from rfl) (Reps.one (show Kd.M Kd.string _ _ _ (⟨#[63,37,54,49,61,98]⟩:ByteArray) [.string (⟨#[63,37,54,49,61,98]⟩:ByteArray)] from rfl) (Reps.one (show Kd.M Kd.string _ _ _ (⟨#[35,120]⟩:ByteArray) [.string (⟨#[35,120]⟩:ByteArray)] from rfl) (Reps.one (show Kd.M Kd.string _ _ _ (⟨#[63,97,63,98]⟩:ByteArray) [.string (⟨#[63,97,63,98]⟩:ByteArray)] from rfl) (Reps.one (show Kd.M Kd.string _ _ _ (⟨#[63,97,35,98]⟩:ByteArray) [.string (⟨#[63,97,35,98]⟩:ByteArray)] from rfl) (Reps.none _ _))))))))));intro v219 w26 ho27 hb hg_ hnew_;clear hg_ hnew_;(first|rw [← Ny218.out] at ho27|(simp only [Int.reduceToNat] at ho27;rw [← Ny218.out] at ho27));have n0_:=Aside0.mk (Kd.R_lower ho27 (below_size (by repeat (first|(with_reducible first|exact HB.out|apply below_alloc|apply pw_below_drewN|apply below_drew1|refine below_set ?_ (IsS55.ge HI204.out))|exact HB.out))));have n1_:=Aside0.mk (IsS55.below (by repeat (first|(with_reducible first|exact HI204.out|apply IsS55.alloc|apply IsS55.drewN|apply IsS55.drew|apply IsS55.set_1)|exact HI204.out)) hb);have n2_:=Aside0.mk (below_step (by repeat (first|(with_reducible first|exact HB.out|apply below_alloc|apply pw_below_drewN|apply below_drew1|refine below_set ?_ (IsS55.ge HI204.out))|exact HB.out)) hb);clear HI204;clear HB;have HO220:=n0_;have HI204:=n1_;have HB:=n2_;clear n0_ n1_ n2_;clear hb ho27;obtain ⟨Ao28,co28,eo28⟩:=Kd.R_slice HO220.out;subst eo28)|((with_reducible refine gate_callee (f:=34) rfl ?_);refine goesL_ (some 31) rfl rfl Tryd.func34 (by kernel_rfl) rfl #[.pointer (some ⟨g204,0,none⟩), .slice Ao28 y218.length co28] rfl (by (try simp only [List.map_toArray,List.map_cons,List.map_nil]);first|done|rfl|(simp only [List.length_drop,List.length_take];rfl)) ?_;(with_reducible refine (spec_l6Rd_of.calls k1 g204 t202 x205001_1 _ _ y218 t221 t222 w _ ?side1 ?side2 ?side3 ?side4 ?side5 A24.out).mono ?_);(case side1=>repeat (first|(with_reducible first|exact HI204.out|apply IsS55.alloc|apply IsS55.drewN|apply IsS55.drew|apply IsS55.set_1)|exact HI204.out));(case side2=>repeat (first|(with_reducible first|exact HB.out|apply below_alloc|apply pw_below_drewN|apply below_drew1|refine below_set ?_ (IsS55.ge HI204.out))|exact HB.out));(case side3=>repeat (first|exact (Kd.R_reads' HO220.out).2.2|(with_reducible refine Kd.C_alloc ?_ _)|(with_reducible refine Kd.C_drewN ?_ _)|(with_reducible refine Kd.C_drew ?_)));(case side4=>exact (Kd.R_reads' HO220.out).2.1);(case side5=>exact far_slice (IsS55.own_ne HI204.out HO220.out (by decide)));rintro e w29 ⟨rfl,hi,hb,hk⟩;refine ⟨_,rfl,?_⟩;have n0_:=Aside0.mk (Kd.R_mono (Kd.R_keep (IsS55.apart (show IsS55 w _ g204 t202 x205001_1 from by repeat (first|(with_reducible first|exact HI204.out|apply IsS55.alloc|apply IsS55.drewN|apply IsS55.drew|apply IsS55.set_1)|exact HI204.out)) (by (with_reducible repeat (first|apply Kd.R_alloc|apply Kd.R_drewN|apply Kd.R_drew));exact HO220.out) (by decide)) hk (fun _ h=>h.2)) (fun _ h=>h.1));have n1_:=Aside0.mk (hb);have n2_:=Aside0.mk (hi);clear HO220;clear HB;clear HI204;have HO220:=n0_;have HB:=n1_;have HI204:=n2_;clear n0_ n1_ n2_;(try clear hb);(try clear hb2);(try clear hk);(try clear hi)))
       go_ret
       exact ⟨by first|rfl|(simp <;> rfl)|(simp [*] <;> rfl),by repeat (first|(with_reducible first|exact HB.out|apply below_alloc|apply pw_below_drewN|apply below_drew1|refine below_set ?_ (IsS55.ge HI204.out))|exact HB.out)⟩
      ·rw [if_neg c25] at H
       exact absurd H (by simp)
  ·rw [if_neg c10] at H
   exact absurd H (by simp)

/-! ### spec_l1Cut: function 19 -/
def spec_l1Cut.l0:Nat → ByteArray → Int → Int → Option (ByteArray × ByteArray × Bool)
 | 0,_,_,_=>none
 | k + 1,x0,x1,x7=>if x7 < (x0.size:Int) then (if 0 ≤ x7 then (if (bt x0 x7) = x1 then (if x7 ≤ (x0.size:Int) then (if 0 ≤ (wrap64 (x7 + 1)) then (if (wrap64 (x7 + 1)) ≤ (x0.size:Int) then (some (x0.extract 0 (x7:Int).toNat,x0.extract ((wrap64 (x7 + 1)):Int).toNat x0.size,true)) else (none)) else (none)) else (none)) else (spec_l1Cut.l0 k x0 x1 (wrap64 (x7 + 1)))) else (none)) else (some (x0,(⟨#[]⟩:ByteArray),false))
def spec_l1Cut.f (k:Nat) (a0:ByteArray) (a1:Int):Option (ByteArray × ByteArray × Bool):=spec_l1Cut.l0 k a0 a1 0
theorem spec_l1Cut.mono_l:∀ k,(∀ y0 y1 y2,LeO (spec_l1Cut.l0 k y0 y1 y2) (spec_l1Cut.l0 (k + 1) y0 y1 y2))
 | 0=>fun _ _ _ r h=>by simp [spec_l1Cut.l0] at h
 | k + 1=>by
  have ih0:=spec_l1Cut.mono_l k
  ·intro y0 y1 y2
   unfold spec_l1Cut.l0
   repeat' first
   | (with_reducible exact ih0 _ _ _)
   | (with_reducible exact LeO.refl _)
   | (with_reducible exact LeO.none _)
   | (with_reducible refine LeO.ite ?_ ?_)
   | (with_reducible refine LeO.bind ?_ (fun _=>?_))
   | exact ih0 _ _ _
   | exact LeO.none _
   | refine LeO.ite ?_ ?_
   | refine LeO.bind ?_ (fun _=>?_)
theorem spec_l1Cut.mono:∀ a0 a1 k,LeO (spec_l1Cut.f k a0 a1) (spec_l1Cut.f (k + 1) a0 a1):=by
 intro a0 a1 k
 have ih0:=spec_l1Cut.mono_l k
 unfold spec_l1Cut.f
 repeat' first
   | (with_reducible exact ih0 _ _ _)
   | (with_reducible exact LeO.refl _)
   | (with_reducible exact LeO.none _)
   | (with_reducible refine LeO.ite ?_ ?_)
   | (with_reducible refine LeO.bind ?_ (fun _=>?_))
   | exact ih0 _ _ _
   | exact LeO.none _
   | refine LeO.ite ?_ ?_
   | refine LeO.bind ?_ (fun _=>?_)
theorem spec_l1Cut.calls (k:Nat) (a0:ByteArray) (a1:Int) (r1:ByteArray) (r2:ByteArray) (r3:Bool) (w:World) (h:spec_l1Cut.f k a0 a1 = some (r1,r2,r3)) :
  Calls Tryd.prog 19 #[.string a0, .int .u8 a1] w fun e w'=>e = .returned (.tuple #[.string r1, .string r2, .bool r3]) ∧ Drawn0 w w':=by
 have H:(spec_l1Cut.l0 k a0 a1 0) = some (r1,r2,r3):=h
 clear h
 have H':=Aside0.mk H
 clear H
 go_enter Tryd.func19,Tryd.ntmps19
 go_wp2
 repeat (go_quiet (fail);try go_wp2)
 go_loopg [7] k (fun kq v7 w'=>∃ (x7_1:Int),v7 = .int .i64 x7_1 ∧ Aside0 (spec_l1Cut.l0 kq a0 a1 x7_1 = some (r1,r2,r3)) ∧ Aside0 (kq ≤ k) ∧ Drawn0 w w')
 case atStart=>exact ⟨(0),(by first|rfl|(simp;done)|(simp only [i64_w,i32_w];done)|(simp only [i64_w,i32_w];rfl)|(simp [*];done)|(simp [emp_bne,emp_beq];done)),H',⟨Nat.le_refl _⟩,by repeat (first|exact Drawn0.refl _|apply Drawn0.step)⟩
 case round =>
  clear H'
  try clear c1
  try clear p2
  obtain ⟨x7_1,rfl,HA,HK1,⟨m1,rfl⟩⟩:=hrel
  cases gk with
  | zero=>exact absurd HA.out (by simp [spec_l1Cut.l0])
  | succ k1 =>
   have H:=HA.out
   clear HA
   simp only [spec_l1Cut.l0] at H
   by_cases c3:x7_1 < (a0.size:Int)
   ·rw [if_pos c3] at H
    have c3b0:decide (x7_1 < (a0.size:Int)) = true:=decide_eq_true c3
    clear c3
    by_cases c4:0 ≤ x7_1
    ·rw [if_pos c4] at H
     have c4b0:decide (0 ≤ x7_1) = true:=decide_eq_true c4
     clear c4
     by_cases c6:(bt a0 x7_1) = a1
     ·rw [if_pos c6] at H
      have c6b0:((bt a0 x7_1) == a1) = true:=beq_iff_eq.mpr c6
      have c6b1:((bt a0 x7_1) != a1) = false:=bne_eq_false_iff_eq.mpr c6
      clear c6
      have c7b0:=eq_true (of_decide_eq_true (by first|(with_reducible assumption)|assumption):0 ≤ x7_1)
      by_cases c8:x7_1 ≤ (a0.size:Int)
      ·rw [if_pos c8] at H
       have c8b0:=eq_true c8
       have c8b1:=decide_eq_true c8
       clear c8
       obtain ⟨ji9,hji9⟩:∃ j_:Int,(wrap64 (x7_1 + 1)) = j_:=⟨_,rfl⟩
       replace H:(if 0 ≤ (ji9) then (if (ji9) ≤ (a0.size:Int) then (some (a0.extract 0 (x7_1:Int).toNat,a0.extract ((ji9):Int).toNat a0.size,true)) else (none)) else (none)) = some (r1,r2,r3):=by first|(rw [hji9] at H;exact H)|(simp only [hji9] at H ⊢;exact H)
       have hji9w:(IntKind.i64.wrap (x7_1 + 1)) = ji9:=(i64_w _).trans hji9
       by_cases c10:0 ≤ (ji9)
       ·rw [if_pos c10] at H
        have c10b0:=eq_true c10
        have c10b1:=decide_eq_true c10
        clear c10
        by_cases c11:(ji9) ≤ (a0.size:Int)
        ·rw [if_pos c11] at H
         have c11b0:=eq_true c11
         have c11b1:=decide_eq_true c11
         clear c11
         simp only [Option.some.injEq,Prod.mk.injEq] at H
         obtain ⟨rfl,rfl,rfl⟩:=H
         have p5:0 ≤ (x7_1:Int):=of_decide_eq_true (by first|(with_reducible assumption)|assumption)
         have q5:x7_1 < (a0.size:Int):=of_decide_eq_true (by first|(with_reducible assumption)|assumption)
         have hx5:=bt_at a0 x7_1
         replace p5:=eq_true p5
         replace q5:=eq_true q5
         go_wp2
         repeat (go_quiet (fail);try go_wp2)
         go_ret3
         exact ⟨by first|rfl|(simp only [i64_w,i32_w];done)|(simp only [i64_w,i32_w];rfl)|(simp;done)|(simp only [← hji9] <;> (first|rfl|simp))|(simp [*];done),by repeat (first|exact Drawn0.refl _|apply Drawn0.step)⟩
        ·rw [if_neg c11] at H
         exact absurd H (by simp)
       ·rw [if_neg c10] at H
        exact absurd H (by simp)
      ·rw [if_neg c8] at H
       exact absurd H (by simp)
     ·rw [if_neg c6] at H
      have c6b0:((bt a0 x7_1) == a1) = false:=beq_eq_false_iff_ne.mpr c6
      have c6b1:((bt a0 x7_1) != a1) = true:=bne_iff_ne.mpr c6
      have H':=Aside0.mk H
      clear H
      have p5:0 ≤ (x7_1:Int):=of_decide_eq_true (by first|(with_reducible assumption)|assumption)
      have q5:x7_1 < (a0.size:Int):=of_decide_eq_true (by first|(with_reducible assumption)|assumption)
      have hx5:=bt_at a0 x7_1
      replace p5:=eq_true p5
      replace q5:=eq_true q5
      go_wp2
      repeat (go_quiet (fail);try go_wp2)
      go_roundg k1
      case measure=>have:=HK1.out;omega
      case rel=>exact ⟨(wrap64 (x7_1 + 1)),(by first|rfl|(simp;done)|(simp only [i64_w,i32_w];done)|(simp only [i64_w,i32_w];rfl)|(simp [*];done)|(simp [emp_bne,emp_beq];done)),H',⟨by have:=HK1.out;omega⟩,by repeat (first|exact Drawn0.refl _|apply Drawn0.step)⟩
    ·rw [if_neg c4] at H
     exact absurd H (by simp)
   ·rw [if_neg c3] at H
    have c3b0:decide (x7_1 < (a0.size:Int)) = false:=decide_eq_false c3
    clear c3
    simp only [Option.some.injEq,Prod.mk.injEq] at H
    obtain ⟨rfl,rfl,rfl⟩:=H
    go_wp2
    repeat (go_quiet (fail);try go_wp2)
    go_ret3
    exact ⟨by first|rfl|(simp;done)|(simp only [i64_w,i32_w];done)|(simp only [i64_w,i32_w];rfl)|(simp [*];done)|(simp [emp_bne,emp_beq];done),by repeat (first|exact Drawn0.refl _|apply Drawn0.step)⟩

/-! ### spec_l1Split: function 53 -/
def spec_l1Split.l0:Nat → Int → List ByteArray → ByteArray → Bool → Option (List ByteArray)
 | 0,_,_,_,_=>none
 | k + 1,x1,x5,x6,x7=>if x7 = true then ((spec_l1Cut.f k x6 x1).bind fun bt226=>(if x5.length < 8796093022208 then (spec_l1Split.l0 k x1 (x5 ++ [bt226.1]) bt226.2.1 bt226.2.2) else (none))) else (some x5)
def spec_l1Split.f (k:Nat) (a0:ByteArray) (a1:Int):Option (List ByteArray):=spec_l1Split.l0 k a1 (([]:List ByteArray)) a0 true
theorem spec_l1Split.mono_l:∀ k,(∀ y0 y1 y2 y3,LeO (spec_l1Split.l0 k y0 y1 y2 y3) (spec_l1Split.l0 (k + 1) y0 y1 y2 y3))
 | 0=>fun _ _ _ _ r h=>by simp [spec_l1Split.l0] at h
 | k + 1=>by
  have ih0:=spec_l1Split.mono_l k
  ·intro y0 y1 y2 y3
   unfold spec_l1Split.l0
   repeat' first
   | (with_reducible exact ih0 _ _ _ _)
   | (with_reducible exact spec_l1Cut.mono _ _ _)
   | (with_reducible exact LeO.refl _)
   | (with_reducible exact LeO.none _)
   | (with_reducible refine LeO.ite ?_ ?_)
   | (with_reducible refine LeO.bind ?_ (fun _=>?_))
   | exact ih0 _ _ _ _
   | exact spec_l1Cut.mono _ _ _
   | exact LeO.none _
   | refine LeO.ite ?_ ?_
   | refine LeO.bind ?_ (fun _=>?_)
theorem spec_l1Split.mono:∀ a0 a1 k,LeO (spec_l1Split.f k a0 a1) (spec_l1Split.f (k + 1) a0 a1):=by
 intro a0 a1 k
 have ih0:=spec_l1Split.mono_l k
 unfold spec_l1Split.f
 repeat' first
   | (with_reducible exact ih0 _ _ _ _)
   | (with_reducible exact spec_l1Cut.mono _ _ _)
   | (with_reducible exact LeO.refl _)
   | (with_reducible exact LeO.none _)
   | (with_reducible refine LeO.ite ?_ ?_)
   | (with_reducible refine LeO.bind ?_ (fun _=>?_))
   | exact ih0 _ _ _ _
   | exact spec_l1Cut.mono _ _ _
   | exact LeO.none _
   | refine LeO.ite ?_ ?_
   | refine LeO.bind ?_ (fun _=>?_)
theorem spec_l1Split.calls (k:Nat) (a0:ByteArray) (a1:Int) (r:List ByteArray) (w:World) (h:spec_l1Split.f k a0 a1 = some r) :
  Calls Tryd.prog 53 #[.string a0, .int .u8 a1] w fun e w'=>∃ v0_:Value,e = .returned (v0_) ∧ Kd.R Kd.string 9 w' w.heap.size (fun _=>True) v0_ r ∧ Below w.heap.size w w':=by
 have HB:=Aside0.mk (Below.refl w.heap.size w)
 have H:(spec_l1Split.l0 k a1 (([]:List ByteArray)) a0 true) = some r:=h
 clear h
 obtain ⟨y223,hy223⟩:∃ y_:List ByteArray,y_ = (([]:List ByteArray)):=⟨_,rfl⟩
 replace H:(spec_l1Split.l0 k a1 y223 a0 true) = some r:=by first|(rw [hy223];with_reducible exact H)|(have H2_:=(Option.bind_some _ _).symm.trans H;rw [hy223];with_reducible exact H2_)|(have H2_:=(Option.bind_some _ _).symm.trans H;with_reducible exact H2_)|with_reducible exact H|(rw [hy223];exact H)|exact H
 have Ny223:=Aside0.mk hy223
 clear hy223
 have H':=Aside0.mk H
 clear H
 go_enter Tryd.func53,Tryd.ntmps53
 go_wp2_with (first|((with_reducible refine gate_dst (N:=9) rfl ?_);refine Kd.R_lit Kd.string _ 9 ?hg (N:=9) ?hd (xs:=([]:List ByteArray)) (inner:=[]) (ok:=fun _=>True) (okp:=fun _=>True) ?hr ?hp (fun _ hk=>hk) trivial (Below.refl _ _) (Nat.le_refl _) (by simp) ?_;(case hd=>rfl);(case hg=>rfl);(case hr=>first|(go_simp;done)|(go_simp;rfl));(case hp=>exact (Reps.none _ _));intro v224 w3 ho4 hb hg_ hnew_;clear hg_ hnew_;(first|rw [← Ny223.out] at ho4|(simp only [Int.reduceToNat] at ho4;rw [← Ny223.out] at ho4));have n0_:=Aside0.mk (Kd.R_lower ho4 (below_size (by repeat (first|(with_reducible first|exact HB.out|apply below_alloc|apply pw_below_drewN|apply below_drew1)|exact HB.out))));have n1_:=Aside0.mk (below_step (by repeat (first|(with_reducible first|exact HB.out|apply below_alloc|apply pw_below_drewN|apply below_drew1)|exact HB.out)) hb);clear HB;have HO225:=n0_;have HB:=n1_;clear n0_ n1_;clear hb ho4))
 go_loopg [5,6,7] k (fun kq v5 v6 v7 w'=>∃ (x5_1:List ByteArray) (x6_1:ByteArray) (x7_1:Bool),v6 = .string x6_1 ∧ v7 = .bool x7_1 ∧ Aside0 (spec_l1Split.l0 kq a1 x5_1 x6_1 x7_1 = some r) ∧ Aside0 (kq ≤ k) ∧ Aside0 (Kd.R Kd.string 9 w' w.heap.size (fun _=>True) v5 x5_1) ∧ Aside0 (Below w.heap.size w w'))
 case atStart=>exact ⟨(y223),(a0),(true),(by first|rfl|(simp;done)|(simp only [i64_w,i32_w];done)|(simp only [i64_w,i32_w];rfl)|(simp [*];done)|(simp [emp_bne,emp_beq];done)),(by first|rfl|(simp;done)|(simp only [i64_w,i32_w];done)|(simp only [i64_w,i32_w];rfl)|(simp [*];done)|(simp [emp_bne,emp_beq];done)),H',⟨Nat.le_refl _⟩,⟨by (with_reducible repeat (first|apply Kd.R_alloc|apply Kd.R_drewN|apply Kd.R_drew));exact HO225.out⟩,⟨by repeat (first|(with_reducible first|exact HB.out|apply below_alloc|apply pw_below_drewN|apply below_drew1)|exact HB.out)⟩⟩
 case round =>
  clear H'
  try clear p2
  obtain ⟨x5_1,x6_1,x7_1,rfl,rfl,HA,HK1,HO_5,HB⟩:=hrel
  cases gk with
  | zero=>exact absurd HA.out (by simp [spec_l1Split.l0])
  | succ k1 =>
   have H:=HA.out
   clear HA
   simp only [spec_l1Split.l0] at H
   by_cases c5:x7_1 = true
   ·subst c5
    have H1:((spec_l1Cut.f k1 x6_1 a1).bind fun bt226=>(if x5_1.length < 8796093022208 then (spec_l1Split.l0 k1 a1 (x5_1 ++ [bt226.1]) bt226.2.1 bt226.2.2) else (none))) = some r:=by rw [if_pos rfl] at H;exact H
    clear H
    have H:=H1
    clear H1
    replace H:=Option.bind_eq_some_iff.mp H
    obtain ⟨⟨t226,t227,t228⟩,A60,H⟩:=H
    replace H:(if x5_1.length < 8796093022208 then (spec_l1Split.l0 k1 a1 (x5_1 ++ [t226]) t227 t228) else (none)) = some r:=H
    have A6:=Aside0.mk A60
    clear A60
    by_cases c7:x5_1.length < 8796093022208
    ·rw [if_pos c7] at H
     have LMc7:=Aside0.mk c7
     clear c7
     obtain ⟨y229,hy229⟩:∃ y_:List ByteArray,y_ = (x5_1 ++ [t226]):=⟨_,rfl⟩
     replace H:(spec_l1Split.l0 k1 a1 y229 t227 t228) = some r:=by first|(rw [hy229];with_reducible exact H)|(have H2_:=(Option.bind_some _ _).symm.trans H;rw [hy229];with_reducible exact H2_)|(have H2_:=(Option.bind_some _ _).symm.trans H;with_reducible exact H2_)|with_reducible exact H|(rw [hy229];exact H)|exact H
     have Ny229:=Aside0.mk hy229
     clear hy229
     have H':=Aside0.mk H
     clear H
     go_wp2_with (first|((with_reducible refine gate_callee (f:=19) rfl ?_);refine goesL_ (some 15) rfl rfl Tryd.func19 (by kernel_rfl) rfl #[.string x6_1, .int .u8 a1] rfl (by (try simp only [List.map_toArray,List.map_cons,List.map_nil]);first|done|rfl|(simp only [List.length_drop,List.length_take];rfl)) ?_;(with_reducible refine (spec_l1Cut.calls k1 x6_1 a1 t226 t227 t228 _ A6.out).mono ?_);rintro e w' ⟨rfl,⟨nd,rfl⟩⟩;refine ⟨_,rfl,?_⟩)|((with_reducible refine gate_builtin (b:=.append) (xs:=#[.tmp 19, .tmp 21]) rfl ?_);at_builtin;refine Kd.R_append Kd.string (w0:=w) w.heap.size rfl (.tmp 19) (.tmp 21) 22 9 (.string ⟨#[]⟩) 16 rfl Tryd.underlying22 info9 rfl (by decide) (by omega) u5 x5_1 t226 [.string t226] (fun _=>True) (fun _=>False) rfl rfl ?aP (fun _ hk=>hk.elim) ?aF ?aO ?aB ?aS ?aL ?_;(case aP=>exact rfl);(case aB=>exact (by repeat (first|(with_reducible first|exact HB.out|apply below_alloc|apply pw_below_drewN|apply below_drew1)|exact HB.out)));(case aF=>exact (fun _ _=>trivial));(case aO=>exact (by (with_reducible repeat (first|apply Kd.R_alloc|apply Kd.R_drewN|apply Kd.R_drew));exact HO_5.out));(case aS=>exact (below_size (by repeat (first|(with_reducible first|exact HB.out|apply below_alloc|apply pw_below_drewN|apply below_drew1)|exact HB.out))));(case aL=>have:=LMc7.out;omega);intro v230 w8 ho hb hg hat;rw [← Ny229.out] at ho;have n0_:=Aside0.mk (hb);have n1_:=Aside0.mk (ho);clear HB;clear HO_5;have HB:=n0_;have HO231:=n1_;clear n0_ n1_;clear ho hb hg hat))
     go_roundg k1
     case measure=>have:=HK1.out;omega
     case rel=>exact ⟨(y229),(t227),(t228),(by first|rfl|(simp;done)|(simp only [i64_w,i32_w];done)|(simp only [i64_w,i32_w];rfl)|(simp [*];done)|(simp [emp_bne,emp_beq];done)),(by first|rfl|(simp;done)|(simp only [i64_w,i32_w];done)|(simp only [i64_w,i32_w];rfl)|(simp [*];done)|(simp [emp_bne,emp_beq];done)),H',⟨by have:=HK1.out;omega⟩,⟨by (with_reducible repeat (first|apply Kd.R_alloc|apply Kd.R_drewN|apply Kd.R_drew));exact HO231.out⟩,⟨by repeat (first|(with_reducible first|exact HB.out|apply below_alloc|apply pw_below_drewN|apply below_drew1)|exact HB.out)⟩⟩
    ·rw [if_neg c7] at H
     exact absurd H (by simp)
   ·replace c5:=Bool.eq_false_iff.mpr c5
    subst c5
    have H1:(some x5_1) = some r:=by rw [if_neg (show ¬ (false = true) by decide)] at H;exact H
    clear H
    have H:=H1
    clear H1
    obtain rfl:=Option.some.inj H
    go_wp2
    go_ret
    exact ⟨_,by first|rfl|(simp <;> rfl)|(simp [*] <;> rfl),by (with_reducible repeat (first|apply Kd.R_alloc|apply Kd.R_drewN|apply Kd.R_drew));exact HO_5.out,by repeat (first|(with_reducible first|exact HB.out|apply below_alloc|apply pw_below_drewN|apply below_drew1)|exact HB.out)⟩

/-! ### spec_PathClean: function 55 -/
mutual
def spec_PathClean.l0:Nat → List ByteArray → List ByteArray → Int → Option (List ByteArray)
 | 0,_,_,_=>none
 | k + 1,x0,x3,x4=>if x4 < (x0.length:Int) then (if 0 ≤ x4 then (if (rdOf ByteArray.empty x0 x4).toList = ([]:List UInt8) then (spec_PathClean.j1 k x0 x3 x4 true) else (spec_PathClean.j1 k x0 x3 x4 ((rdOf ByteArray.empty x0 x4).toList == ([46]:List UInt8)))) else (none)) else (some x3)
def spec_PathClean.j1:Nat → List ByteArray → List ByteArray → Int → Bool → Option (List ByteArray)
 | 0,_,_,_,_=>none
 | k + 1,x0,x3,x4,x19=>if x19 = true then (spec_PathClean.l0 k x0 x3 (wrap64 (x4 + 1))) else (if 0 ≤ x4 then (if x4 < (x0.length:Int) then (if (rdOf ByteArray.empty x0 x4).toList = ([46,46]:List UInt8) then (if 0 ≤ (mx (wrap64 ((x3.length:Int) - 1)) 0) then (if (mx (wrap64 ((x3.length:Int) - 1)) 0) ≤ (x3.length:Int) then (spec_PathClean.l0 k x0 (x3.take ((mx (wrap64 ((x3.length:Int) - 1)) 0):Int).toNat) (wrap64 (x4 + 1))) else (none)) else (none)) else (if x3.length < 8796093022208 then (spec_PathClean.l0 k x0 (x3 ++ [rdOf ByteArray.empty x0 x4]) (wrap64 (x4 + 1))) else (none))) else (none)) else (none))
end
def spec_PathClean.f (k:Nat) (l0:List ByteArray):Option (List ByteArray):=spec_PathClean.l0 k l0 (([]:List ByteArray)) 0
theorem spec_PathClean.mono_l:∀ k,(∀ y0 y1 y2,LeO (spec_PathClean.l0 k y0 y1 y2) (spec_PathClean.l0 (k + 1) y0 y1 y2)) ∧ (∀ y0 y1 y2 y3,LeO (spec_PathClean.j1 k y0 y1 y2 y3) (spec_PathClean.j1 (k + 1) y0 y1 y2 y3))
 | 0=>⟨fun _ _ _ r h=>by simp [spec_PathClean.l0] at h,fun _ _ _ _ r h=>by simp [spec_PathClean.j1] at h⟩
 | k + 1=>by
  obtain ⟨ih0,ih1⟩:=spec_PathClean.mono_l k
  refine ⟨?_,?_⟩
  ·intro y0 y1 y2
   unfold spec_PathClean.l0
   repeat' first
   | (with_reducible exact ih0 _ _ _)
   | (with_reducible exact ih1 _ _ _ _)
   | (with_reducible exact LeO.refl _)
   | (with_reducible exact LeO.none _)
   | (with_reducible refine LeO.ite ?_ ?_)
   | (with_reducible refine LeO.bind ?_ (fun _=>?_))
   | exact ih0 _ _ _
   | exact ih1 _ _ _ _
   | exact LeO.none _
   | refine LeO.ite ?_ ?_
   | refine LeO.bind ?_ (fun _=>?_)
  ·intro y0 y1 y2 y3
   unfold spec_PathClean.j1
   repeat' first
   | (with_reducible exact ih0 _ _ _)
   | (with_reducible exact ih1 _ _ _ _)
   | (with_reducible exact LeO.refl _)
   | (with_reducible exact LeO.none _)
   | (with_reducible refine LeO.ite ?_ ?_)
   | (with_reducible refine LeO.bind ?_ (fun _=>?_))
   | exact ih0 _ _ _
   | exact ih1 _ _ _ _
   | exact LeO.none _
   | refine LeO.ite ?_ ?_
   | refine LeO.bind ?_ (fun _=>?_)
theorem spec_PathClean.mono:∀ a0 k,LeO (spec_PathClean.f k a0) (spec_PathClean.f (k + 1) a0):=by
 intro a0 k
 obtain ⟨ih0,ih1⟩:=spec_PathClean.mono_l k
 unfold spec_PathClean.f
 repeat' first
   | (with_reducible exact ih0 _ _ _)
   | (with_reducible exact ih1 _ _ _ _)
   | (with_reducible exact LeO.refl _)
   | (with_reducible exact LeO.none _)
   | (with_reducible refine LeO.ite ?_ ?_)
   | (with_reducible refine LeO.bind ?_ (fun _=>?_))
   | exact ih0 _ _ _
   | exact ih1 _ _ _ _
   | exact LeO.none _
   | refine LeO.ite ?_ ?_
   | refine LeO.bind ?_ (fun _=>?_)
theorem spec_PathClean.calls (k:Nat) (A0:Option Addr) (c0:Nat) (l0:List ByteArray) (r:List ByteArray) (w:World) (hr0:Kd.C Kd.string w A0 l0.length l0) (hc0:l0.length ≤ c0) (h:spec_PathClean.f k l0 = some r) :
  Calls Tryd.prog 55 #[.slice A0 l0.length c0] w fun e w'=>∃ v0_:Value,e = .returned (v0_) ∧ Kd.R Kd.string 9 w' w.heap.size (fun _=>True) v0_ r ∧ Below w.heap.size w w':=by
 have HR0:=Aside0.mk hr0
 have HC0:=Aside0.mk hc0
 clear hr0 hc0
 have HB:=Aside0.mk (Below.refl w.heap.size w)
 have H:(spec_PathClean.l0 k l0 (([]:List ByteArray)) 0) = some r:=h
 clear h
 obtain ⟨y232,hy232⟩:∃ y_:List ByteArray,y_ = (([]:List ByteArray)):=⟨_,rfl⟩
 replace H:(spec_PathClean.l0 k l0 y232 0) = some r:=by first|(rw [hy232];with_reducible exact H)|(have H2_:=(Option.bind_some _ _).symm.trans H;rw [hy232];with_reducible exact H2_)|(have H2_:=(Option.bind_some _ _).symm.trans H;with_reducible exact H2_)|with_reducible exact H|(rw [hy232];exact H)|exact H
 have Ny232:=Aside0.mk hy232
 clear hy232
 have H':=Aside0.mk H
 clear H
 go_enter Tryd.func55,Tryd.ntmps55
 go_wp2_with (first|((with_reducible refine gate_dst (N:=5) rfl ?_);refine Kd.R_lit Kd.string _ 9 ?hg (N:=5) ?hd (xs:=([]:List ByteArray)) (inner:=[]) (ok:=fun _=>True) (okp:=fun _=>True) ?hr ?hp (fun _ hk=>hk) trivial (Below.refl _ _) (Nat.le_refl _) (by simp) ?_;(case hd=>rfl);(case hg=>rfl);(case hr=>first|(go_simp;done)|(go_simp;rfl));(case hp=>exact (Reps.none _ _));intro v233 w2 ho3 hb hg_ hnew_;clear hg_ hnew_;(first|rw [← Ny232.out] at ho3|(simp only [Int.reduceToNat] at ho3;rw [← Ny232.out] at ho3));have n0_:=Aside0.mk (Kd.R_lower ho3 (below_size (by repeat (first|(with_reducible first|exact HB.out|apply below_alloc|apply pw_below_drewN|apply below_drew1)|exact HB.out))));have n1_:=Aside0.mk (below_step (by repeat (first|(with_reducible first|exact HB.out|apply below_alloc|apply pw_below_drewN|apply below_drew1)|exact HB.out)) hb);clear HB;have HO234:=n0_;have HB:=n1_;clear n0_ n1_;clear hb ho3))
 go_loopg [3,4] k (fun kq v3 v4 w'=>∃ (x3_1:List ByteArray) (x4_1:Int),v4 = .int .i64 x4_1 ∧ Aside0 (spec_PathClean.l0 kq l0 x3_1 x4_1 = some r) ∧ Aside0 (kq ≤ k) ∧ Aside0 (Kd.R Kd.string 9 w' w.heap.size (fun _=>True) v3 x3_1) ∧ Aside0 (Below w.heap.size w w'))
 case atStart=>exact ⟨(y232),(0),(by first|rfl|(simp;done)|(simp only [i64_w,i32_w];done)|(simp only [i64_w,i32_w];rfl)|(simp [*];done)|(simp [emp_bne,emp_beq];done)),H',⟨Nat.le_refl _⟩,⟨by (with_reducible repeat (first|apply Kd.R_alloc|apply Kd.R_drewN|apply Kd.R_drew));exact HO234.out⟩,⟨by repeat (first|(with_reducible first|exact HB.out|apply below_alloc|apply pw_below_drewN|apply below_drew1)|exact HB.out)⟩⟩
 case round =>
  clear H'
  try clear p2
  obtain ⟨x3_1,x4_1,rfl,HA,HK1,HO_3,HB⟩:=hrel
  cases gk with
  | zero=>exact absurd HA.out (by simp [spec_PathClean.l0])
  | succ k1 =>
   have H:=HA.out
   clear HA
   simp only [spec_PathClean.l0] at H
   by_cases c4:x4_1 < (l0.length:Int)
   ·rw [if_pos c4] at H
    have c4b0:decide (x4_1 < (l0.length:Int)) = true:=decide_eq_true c4
    clear c4
    have HC5:=Aside0.mk H
    clear H
    go_upto_region 6 with (fail)
    go_cut [19] (fun v19 wc=>∃ (kq:Nat) (x19_4:Bool),v19 = .bool x19_4 ∧ Aside0 (spec_PathClean.j1 kq l0 x3_1 x4_1 x19_4 = some r) ∧ Aside0 (kq ≤ k1) ∧ Aside0 (Kd.R Kd.string 9 wc w.heap.size (fun _=>True) u3 x3_1) ∧ Aside0 (Below w.heap.size w wc))
    case first =>
     have H:=HC5.out
     clear HC5
     by_cases c6:0 ≤ x4_1
     ·rw [if_pos c6] at H
      have c6b0:decide (0 ≤ x4_1) = true:=decide_eq_true c6
      clear c6
      (first|rw [c6b0]|(simp only [i64_w,i32_w];rw [c6b0])|skip)
      by_cases c7:(rdOf ByteArray.empty l0 x4_1).toList = ([]:List UInt8)
      ·rw [if_pos c7] at H
       (try (have c7b0:(rdOf ByteArray.empty l0 x4_1).toList.isEmpty = true:=by simpa using c7))
       have c7b1:((rdOf ByteArray.empty l0 x4_1).toList == ([]:List UInt8)) = true:=beq_iff_eq.mpr c7
       have c7b2:((rdOf ByteArray.empty l0 x4_1).toList != ([]:List UInt8)) = false:=bne_eq_false_iff_eq.mpr c7
       clear c7
       have H':=Aside0.mk H
       clear H
       have p235:0 ≤ (x4_1:Int):=of_decide_eq_true (by first|(with_reducible assumption)|assumption)
       have q235:x4_1 < (l0.length:Int):=of_decide_eq_true (by first|(with_reducible assumption)|assumption)
       obtain ⟨ad235,e235,hx235_0⟩:=Kd.at_string HR0.out x4_1 p235 q235
       cases e235
       replace hx235_0:=(HB.out.cell (World.block_lt_of_cell? w _ hx235_0)).trans hx235_0
       replace p235:=eq_true p235
       replace q235:=eq_true q235
       go_wp2
       go_meet
       case rel=>exact ⟨_,(true),(by first|rfl|(simp;done)|(simp only [i64_w,i32_w];done)|(simp only [i64_w,i32_w];rfl)|(simp [*];done)|(simp [emp_bne,emp_beq];done)),H',⟨by have:=HK1.out;first|omega|exact Nat.le_refl _⟩,⟨by (with_reducible repeat (first|apply Kd.R_alloc|apply Kd.R_drewN|apply Kd.R_drew));exact HO_3.out⟩,⟨by repeat (first|(with_reducible first|exact HB.out|apply below_alloc|apply pw_below_drewN|apply below_drew1)|exact HB.out)⟩⟩
      ·rw [if_neg c7] at H
       (try (have c7b0:(rdOf ByteArray.empty l0 x4_1).toList.isEmpty = false:=by simpa using c7))
       have c7b1:((rdOf ByteArray.empty l0 x4_1).toList == ([]:List UInt8)) = false:=beq_eq_false_iff_ne.mpr c7
       have c7b2:((rdOf ByteArray.empty l0 x4_1).toList != ([]:List UInt8)) = true:=bne_iff_ne.mpr c7
       have H':=Aside0.mk H
       clear H
       have p235:0 ≤ (x4_1:Int):=of_decide_eq_true (by first|(with_reducible assumption)|assumption)
       have q235:x4_1 < (l0.length:Int):=of_decide_eq_true (by first|(with_reducible assumption)|assumption)
       obtain ⟨ad235,e235,hx235_0⟩:=Kd.at_string HR0.out x4_1 p235 q235
       cases e235
       replace hx235_0:=(HB.out.cell (World.block_lt_of_cell? w _ hx235_0)).trans hx235_0
       replace p235:=eq_true p235
       replace q235:=eq_true q235
       have p236:0 ≤ (x4_1:Int):=of_decide_eq_true (by first|(with_reducible assumption)|assumption)
       have q236:x4_1 < (l0.length:Int):=of_decide_eq_true (by first|(with_reducible assumption)|assumption)
       obtain ⟨ad236,e236,hx236_0⟩:=Kd.at_string HR0.out x4_1 p236 q236
       obtain rfl:ad235 = ad236:=(by injection e236)
       replace hx236_0:=(HB.out.cell (World.block_lt_of_cell? w _ hx236_0)).trans hx236_0
       replace p236:=eq_true p236
       replace q236:=eq_true q236
       go_wp2
       go_meet
       case rel=>exact ⟨_,(((rdOf ByteArray.empty l0 x4_1).toList == ([46]:List UInt8))),(by first|rfl|(simp;done)|(simp only [i64_w,i32_w];done)|(simp only [i64_w,i32_w];rfl)|(simp [*];done)|(simp [emp_bne,emp_beq];done)),H',⟨by have:=HK1.out;first|omega|exact Nat.le_refl _⟩,⟨by (with_reducible repeat (first|apply Kd.R_alloc|apply Kd.R_drewN|apply Kd.R_drew));exact HO_3.out⟩,⟨by repeat (first|(with_reducible first|exact HB.out|apply below_alloc|apply pw_below_drewN|apply below_drew1)|exact HB.out)⟩⟩
     ·rw [if_neg c6] at H
      exact absurd H (by simp)
    case rest =>
     clear HC5
     try clear p2
     try clear q2
     try clear hx2
     try clear c4
     try clear c4b0
     try clear c5
     try clear c6
     try clear c6b0
     try clear c7
     try clear c7b0
     try clear c7b1
     try clear c7b2
     try clear hx235_0
     try clear hx236_0
     try clear p2
     try clear p235
     try clear p236
     try clear q235
     try clear q236
     obtain ⟨kq,x19_4,rfl,HA,HJ4,HO_3,HB⟩:=hcut
     cases kq with
     | zero=>exact absurd HA.out (by simp [spec_PathClean.j1])
     | succ kj4 =>
      have H:=HA.out
      clear HA
      simp only [spec_PathClean.j1] at H
      by_cases c8:x19_4 = true
      ·subst c8
       have H1:(spec_PathClean.l0 kj4 l0 x3_1 (wrap64 (x4_1 + 1))) = some r:=by rw [if_pos rfl] at H;exact H
       clear H
       have H:=H1
       clear H1
       have H':=Aside0.mk H
       clear H
       go_wp2
       go_roundg kj4
       case measure=>have:=HK1.out;have:=HJ4.out;omega
       case rel=>exact ⟨(x3_1),(wrap64 (x4_1 + 1)),(by first|rfl|(simp;done)|(simp only [i64_w,i32_w];done)|(simp only [i64_w,i32_w];rfl)|(simp [*];done)|(simp [emp_bne,emp_beq];done)),H',⟨by have:=HK1.out;have:=HJ4.out;omega⟩,⟨by (with_reducible repeat (first|apply Kd.R_alloc|apply Kd.R_drewN|apply Kd.R_drew));exact HO_3.out⟩,⟨by repeat (first|(with_reducible first|exact HB.out|apply below_alloc|apply pw_below_drewN|apply below_drew1)|exact HB.out)⟩⟩
      ·replace c8:=Bool.eq_false_iff.mpr c8
       subst c8
       have H1:(if 0 ≤ x4_1 then (if x4_1 < (l0.length:Int) then (if (rdOf ByteArray.empty l0 x4_1).toList = ([46,46]:List UInt8) then (if 0 ≤ (mx (wrap64 ((x3_1.length:Int) - 1)) 0) then (if (mx (wrap64 ((x3_1.length:Int) - 1)) 0) ≤ (x3_1.length:Int) then (spec_PathClean.l0 kj4 l0 (x3_1.take ((mx (wrap64 ((x3_1.length:Int) - 1)) 0):Int).toNat) (wrap64 (x4_1 + 1))) else (none)) else (none)) else (if x3_1.length < 8796093022208 then (spec_PathClean.l0 kj4 l0 (x3_1 ++ [rdOf ByteArray.empty l0 x4_1]) (wrap64 (x4_1 + 1))) else (none))) else (none)) else (none)) = some r:=by rw [if_neg (show ¬ (false = true) by decide)] at H;exact H
       clear H
       have H:=H1
       clear H1
       by_cases c9:0 ≤ x4_1
       ·rw [if_pos c9] at H
        have c9b0:decide (0 ≤ x4_1) = true:=decide_eq_true c9
        clear c9
        by_cases c10:x4_1 < (l0.length:Int)
        ·rw [if_pos c10] at H
         have c10b0:decide (x4_1 < (l0.length:Int)) = true:=decide_eq_true c10
         clear c10
         by_cases c11:(rdOf ByteArray.empty l0 x4_1).toList = ([46,46]:List UInt8)
         ·rw [if_pos c11] at H
          have c11b0:((rdOf ByteArray.empty l0 x4_1).toList == ([46,46]:List UInt8)) = true:=beq_iff_eq.mpr c11
          have c11b1:((rdOf ByteArray.empty l0 x4_1).toList != ([46,46]:List UInt8)) = false:=bne_eq_false_iff_eq.mpr c11
          clear c11
          obtain ⟨ji12,hji12⟩:∃ j_:Int,(mx (wrap64 ((x3_1.length:Int) - 1)) 0) = j_:=⟨_,rfl⟩
          replace H:(if 0 ≤ (ji12) then (if (ji12) ≤ (x3_1.length:Int) then (spec_PathClean.l0 kj4 l0 (x3_1.take ((ji12):Int).toNat) (wrap64 (x4_1 + 1))) else (none)) else (none)) = some r:=by first|(rw [hji12] at H;exact H)|(simp only [hji12] at H ⊢;exact H)
          have hji12_:(if (wrap64 ((x3_1.length:Int) - 1)) < 0 then 0 else (wrap64 ((x3_1.length:Int) - 1))) = ji12:=hji12
          by_cases c13:0 ≤ (ji12)
          ·rw [if_pos c13] at H
           have c13b0:=eq_true c13
           have c13b1:=decide_eq_true c13
           clear c13
           by_cases c14:(ji12) ≤ (x3_1.length:Int)
           ·rw [if_pos c14] at H
            have c14b0:=eq_true c14
            have c14b1:=decide_eq_true c14
            clear c14
            obtain ⟨y238,hy238⟩:∃ y_:List ByteArray,y_ = (x3_1.take ((ji12):Int).toNat):=⟨_,rfl⟩
            replace H:(spec_PathClean.l0 kj4 l0 y238 (wrap64 (x4_1 + 1))) = some r:=by first|(rw [hy238];with_reducible exact H)|(have H2_:=(Option.bind_some _ _).symm.trans H;rw [hy238];with_reducible exact H2_)|(have H2_:=(Option.bind_some _ _).symm.trans H;with_reducible exact H2_)|with_reducible exact H|(rw [hy238];exact H)|exact H
            have Ny238:=Aside0.mk hy238
            clear hy238
            have H':=Aside0.mk H
            clear H
            have p237:0 ≤ (x4_1:Int):=of_decide_eq_true (by first|(with_reducible assumption)|assumption)
            have q237:x4_1 < (l0.length:Int):=of_decide_eq_true (by first|(with_reducible assumption)|assumption)
            obtain ⟨ad237,e237,hx237_0⟩:=Kd.at_string HR0.out x4_1 p237 q237
            cases e237
            replace hx237_0:=(HB.out.cell (World.block_lt_of_cell? w _ hx237_0)).trans hx237_0
            replace p237:=eq_true p237
            replace q237:=eq_true q237
            obtain ⟨Ao15,co15,eo15⟩:=Kd.R_slice HO_3.out
            subst eo15
            have q16:((ji12):Int) ≤ ((x3_1.length:Int):Int):=of_decide_eq_true (by first|(with_reducible assumption)|assumption)
            obtain ⟨i016,hi016,_,hsz16,_⟩:=info_parts info9
            have hcut16:=cut_to (P:=Tryd.prog) 22 9 .i64 Tryd.underlying22 hi016 Ao15 x3_1.length co15 (ji12) (of_decide_eq_true (by first|(with_reducible assumption)|assumption)) q16 (Kd.R_reads' HO_3.out).2.1
            have hr16:=Kd.R_take (m:=((ji12):Int).toNat) HO_3.out (by omega)
            have hy16:y238.length = ((ji12):Int).toNat:=(by rw [Ny238.out,List.length_take];omega)
            rw [← Ny238.out] at hr16
            rw [← hy16] at hr16 hcut16
            clear hy16 hi016 hsz16 HO_3
            have HO240:=Aside0.mk hr16
            clear hr16
            replace q16:=eq_true q16
            go_wp2
            go_roundg kj4
            case measure=>have:=HK1.out;have:=HJ4.out;omega
            case rel=>exact ⟨(y238),(wrap64 (x4_1 + 1)),(by first|rfl|(simp;done)|(simp only [i64_w,i32_w];done)|(simp only [i64_w,i32_w];rfl)|(simp [*];done)|(simp [emp_bne,emp_beq];done)),H',⟨by have:=HK1.out;have:=HJ4.out;omega⟩,⟨by (with_reducible repeat (first|apply Kd.R_alloc|apply Kd.R_drewN|apply Kd.R_drew));exact HO240.out⟩,⟨by repeat (first|(with_reducible first|exact HB.out|apply below_alloc|apply pw_below_drewN|apply below_drew1)|exact HB.out)⟩⟩
           ·rw [if_neg c14] at H
            exact absurd H (by simp)
          ·rw [if_neg c13] at H
           exact absurd H (by simp)
         ·rw [if_neg c11] at H
          have c11b0:((rdOf ByteArray.empty l0 x4_1).toList == ([46,46]:List UInt8)) = false:=beq_eq_false_iff_ne.mpr c11
          have c11b1:((rdOf ByteArray.empty l0 x4_1).toList != ([46,46]:List UInt8)) = true:=bne_iff_ne.mpr c11
          by_cases c17:x3_1.length < 8796093022208
          ·rw [if_pos c17] at H
           have LMc17:=Aside0.mk c17
           clear c17
           obtain ⟨y242,hy242⟩:∃ y_:List ByteArray,y_ = (x3_1 ++ [rdOf ByteArray.empty l0 x4_1]):=⟨_,rfl⟩
           replace H:(spec_PathClean.l0 kj4 l0 y242 (wrap64 (x4_1 + 1))) = some r:=by first|(rw [hy242];with_reducible exact H)|(have H2_:=(Option.bind_some _ _).symm.trans H;rw [hy242];with_reducible exact H2_)|(have H2_:=(Option.bind_some _ _).symm.trans H;with_reducible exact H2_)|with_reducible exact H|(rw [hy242];exact H)|exact H
           have Ny242:=Aside0.mk hy242
           clear hy242
           have H':=Aside0.mk H
           clear H
           have p237:0 ≤ (x4_1:Int):=of_decide_eq_true (by first|(with_reducible assumption)|assumption)
           have q237:x4_1 < (l0.length:Int):=of_decide_eq_true (by first|(with_reducible assumption)|assumption)
           obtain ⟨ad237,e237,hx237_0⟩:=Kd.at_string HR0.out x4_1 p237 q237
           cases e237
           replace hx237_0:=(HB.out.cell (World.block_lt_of_cell? w _ hx237_0)).trans hx237_0
           replace p237:=eq_true p237
           replace q237:=eq_true q237
           have p241:0 ≤ (x4_1:Int):=of_decide_eq_true (by first|(with_reducible assumption)|assumption)
           have q241:x4_1 < (l0.length:Int):=of_decide_eq_true (by first|(with_reducible assumption)|assumption)
           obtain ⟨ad241,e241,hx241_0⟩:=Kd.at_string HR0.out x4_1 p241 q241
           obtain rfl:ad237 = ad241:=(by injection e241)
           replace hx241_0:=(HB.out.cell (World.block_lt_of_cell? w _ hx241_0)).trans hx241_0
           replace p241:=eq_true p241
           replace q241:=eq_true q241
           go_wp2_with (first|((with_reducible refine gate_builtin (b:=.append) (xs:=#[.tmp 12, .tmp 17]) rfl ?_);at_builtin;refine Kd.R_append Kd.string (w0:=w) w.heap.size rfl (.tmp 12) (.tmp 17) 22 9 (.string ⟨#[]⟩) 16 rfl Tryd.underlying22 info9 rfl (by decide) (by omega) u3 x3_1 (rdOf ByteArray.empty l0 x4_1) [.string (rdOf ByteArray.empty l0 x4_1)] (fun _=>True) (fun _=>False) rfl rfl ?aP (fun _ hk=>hk.elim) ?aF ?aO ?aB ?aS ?aL ?_;(case aP=>exact rfl);(case aB=>exact (by repeat (first|(with_reducible first|exact HB.out|apply below_alloc|apply pw_below_drewN|apply below_drew1)|exact HB.out)));(case aF=>exact (fun _ _=>trivial));(case aO=>exact (by (with_reducible repeat (first|apply Kd.R_alloc|apply Kd.R_drewN|apply Kd.R_drew));exact HO_3.out));(case aS=>exact (below_size (by repeat (first|(with_reducible first|exact HB.out|apply below_alloc|apply pw_below_drewN|apply below_drew1)|exact HB.out))));(case aL=>have:=LMc17.out;omega);intro v243 w18 ho hb hg hat;rw [← Ny242.out] at ho;have n0_:=Aside0.mk (hb);have n1_:=Aside0.mk (ho);clear HB;clear HO_3;have HB:=n0_;have HO244:=n1_;clear n0_ n1_;clear ho hb hg hat))
           go_roundg kj4
           case measure=>have:=HK1.out;have:=HJ4.out;omega
           case rel=>exact ⟨(y242),(wrap64 (x4_1 + 1)),(by first|rfl|(simp;done)|(simp only [i64_w,i32_w];done)|(simp only [i64_w,i32_w];rfl)|(simp [*];done)|(simp [emp_bne,emp_beq];done)),H',⟨by have:=HK1.out;have:=HJ4.out;omega⟩,⟨by (with_reducible repeat (first|apply Kd.R_alloc|apply Kd.R_drewN|apply Kd.R_drew));exact HO244.out⟩,⟨by repeat (first|(with_reducible first|exact HB.out|apply below_alloc|apply pw_below_drewN|apply below_drew1)|exact HB.out)⟩⟩
          ·rw [if_neg c17] at H
           exact absurd H (by simp)
        ·rw [if_neg c10] at H
         exact absurd H (by simp)
       ·rw [if_neg c9] at H
        exact absurd H (by simp)
   ·rw [if_neg c4] at H
    have c4b0:decide (x4_1 < (l0.length:Int)) = false:=decide_eq_false c4
    clear c4
    obtain rfl:=Option.some.inj H
    go_wp2
    go_ret
    exact ⟨_,by first|rfl|(simp <;> rfl)|(simp [*] <;> rfl),by (with_reducible repeat (first|apply Kd.R_alloc|apply Kd.R_drewN|apply Kd.R_drew));exact HO_3.out,by repeat (first|(with_reducible first|exact HB.out|apply below_alloc|apply pw_below_drewN|apply below_drew1)|exact HB.out)⟩

end Go.Proofs.YtochmlkladpfgaaDoor.P
