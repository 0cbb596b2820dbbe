-- Written by a program of this session (patch_print.py over the kit's print; given texts in wip/given).
-- Cut down by a program of this session (wip/tools/prune.py) to what its claim can name.
import Derived.Test.YtheakfegchndcaaPx0
import Derived.Test.YtheakfegchndcaaPx1
import Derived.Test.YtheakfegchndcaaPx2
import Derived.Test.YtheakfegchndcaaPx4
import Derived.Test.YtheakfegchndcaaPx5
namespace Go.Proofs.Ytheakfegchndcaa.P
open Go.RowKit Go.Proofs.YtheakfegchndcaaW.PrintWords Go.Proofs.YtheakfegchndcaaW.PrintLast Go.Proofs.YtheakfegchndcaaW.PrintMore
attribute [local go_sem] max2_int min2_int max_two min_two max_three min_three max_four min_four   -- for this text's walks alone
set_option linter.unusedVariables false
set_option linter.unusedSimpArgs false
set_option maxHeartbeats 8000000
set_option maxRecDepth 100000

attribute [local go_sem high] eqA57
/-! ### spec_l71Name: function 30 -/
def spec_l71Name.f (k:Nat) (s0_0:List Int) (s0_1:Int):Option (ByteArray × Int):=(spec_l6Rd_of.f k s0_0 s0_1 (([(⟨#[114,111,118,101,114]⟩:ByteArray),(⟨#[114,111,118,101,114]⟩:ByteArray),(⟨#[115,99,111,117,116]⟩:ByteArray),(⟨#[111,116,104,101,114]⟩:ByteArray)]:List ByteArray))).bind fun bt342=>(some (bt342.1,bt342.2))
theorem spec_l71Name.mono:∀ a0 a1 k,LeO (spec_l71Name.f k a0 a1) (spec_l71Name.f (k + 1) a0 a1):=by
 intro a0 a1 k
 unfold spec_l71Name.f
 repeat' first
   | (with_reducible exact spec_l6Rd_of.mono _ _ _ _)
   | (with_reducible exact LeO.refl _)
   | (with_reducible exact LeO.none _)
   | (with_reducible refine LeO.ite ?_ ?_)
   | (with_reducible refine LeO.bind ?_ (fun _=>?_))
   | exact spec_l6Rd_of.mono _ _ _ _
   | exact LeO.none _
   | refine LeO.ite ?_ ?_
   | refine LeO.bind ?_ (fun _=>?_)
theorem spec_l71Name.calls (k:Nat) (g:Nat) (s0_0:List Int) (s0_1:Int) (r1:ByteArray) (r2:Int) (w0 w:World) (hI:IsS70 w0 w g s0_0 s0_1) (hB:Below w0.heap.size w0 w) (h:spec_l71Name.f k s0_0 s0_1 = some (r1,r2)) :
  Calls Try.prog 30 #[.pointer (some ⟨g,0,none⟩)] w fun e w'=>e = .returned (.string r1) ∧ IsS70 w0 w' g s0_0 r2 ∧ Below w0.heap.size w0 w' ∧ KeepBut w w' g none:=by
 have HI0:=Aside0.mk hI
 have HK:=Aside0.mk (KeepBut.refl w g none)
 have HL:=Aside0.mk hB.size
 clear hI
 have HW0:=Aside0.mk hB.size
 have HB:=Aside0.mk hB
 clear hB
 have H:((spec_l6Rd_of.f k s0_0 s0_1 (([(⟨#[114,111,118,101,114]⟩:ByteArray),(⟨#[114,111,118,101,114]⟩:ByteArray),(⟨#[115,99,111,117,116]⟩:ByteArray),(⟨#[111,116,104,101,114]⟩:ByteArray)]:List ByteArray))).bind fun bt342=>(some (bt342.1,bt342.2))) = some (r1,r2):=h
 clear h
 obtain ⟨y339,hy339⟩:∃ y_:List ByteArray,y_ = (([(⟨#[114,111,118,101,114]⟩:ByteArray),(⟨#[114,111,118,101,114]⟩:ByteArray),(⟨#[115,99,111,117,116]⟩:ByteArray),(⟨#[111,116,104,101,114]⟩:ByteArray)]:List ByteArray)):=⟨_,rfl⟩
 replace H:((spec_l6Rd_of.f k s0_0 s0_1 y339).bind fun bt342=>(some (bt342.1,bt342.2))) = some (r1,r2):=by first|(rw [hy339];with_reducible exact H)|(have H2_:=(Option.bind_some _ _).symm.trans H;rw [hy339];with_reducible exact H2_)|(have H2_:=(Option.bind_some _ _).symm.trans H;with_reducible exact H2_)|with_reducible exact H|(rw [hy339];exact H)|exact H
 have Ny339:=Aside0.mk hy339
 clear hy339
 replace H:=Option.bind_eq_some_iff.mp H
 obtain ⟨⟨t342,t343⟩,A20,H⟩:=H
 replace H:(some (t342,t343)) = some (r1,r2):=H
 have A2:=Aside0.mk A20
 clear A20
 simp only [Option.some.injEq,Prod.mk.injEq] at H
 obtain ⟨rfl,rfl⟩:=H
 go_enter Try.func30,Try.ntmps30
 go_wp2_with (first|((with_reducible refine gate_dst (N:=4) rfl ?_);refine Kd.R_lit Kd.string _ 9 ?hg (N:=4) ?hd (xs:=([(⟨#[114,111,118,101,114]⟩:ByteArray),(⟨#[114,111,118,101,114]⟩:ByteArray),(⟨#[115,99,111,117,116]⟩:ByteArray),(⟨#[111,116,104,101,114]⟩:ByteArray)]:List ByteArray)) (inner:=[.string (⟨#[114,111,118,101,114]⟩:ByteArray), .string (⟨#[114,111,118,101,114]⟩:ByteArray), .string (⟨#[115,99,111,117,116]⟩:ByteArray), .string (⟨#[111,116,104,101,114]⟩:ByteArray)]) (ok:=fun _=>True) (okp:=fun _=>True) ?hr ?hp (fun _ hk=>hk) trivial (Below.refl _ _) (Nat.le_refl _) (by simp) ?_;(case hd=>rfl);(case hg=>rfl);(case hr=>first|(go_simp;done)|(go_simp;rfl));(case hp=>exact (Reps.one (show Kd.M Kd.string _ _ _ (⟨#[114,111,118,101,114]⟩:ByteArray) [.string (⟨#[114,111,118,101,114]⟩:ByteArray)] from rfl) (Reps.one (show Kd.M Kd.string _ _ _ (⟨#[114,111,118,101,114]⟩:ByteArray) [.string (⟨#[114,111,118,101,114]⟩:ByteArray)] from rfl) (Reps.one (show Kd.M Kd.string _ _ _ (⟨#[115,99,111,117,116]⟩:ByteArray) [.string (⟨#[115,99,111,117,116]⟩:ByteArray)] from rfl) (Reps.one (show Kd.M Kd.string _ _ _ (⟨#[111,116,104,101,114]⟩:ByteArray) [.string (⟨#[111,116,104,101,114]⟩:ByteArray)] from rfl) (Reps.none _ _))))));intro v340 w3 ho4 hb hg_ hnew_;clear hg_ hnew_;(first|rw [← Ny339.out] at ho4|(simp only [Int.reduceToNat] at ho4;rw [← Ny339.out] at ho4));have n0_:=Aside0.mk (Kd.R_lower ho4 (keep_size (w:=w) (g:=g) (row:=none) (by repeat (first|(with_reducible first|exact HK.out|apply KeepBut.set_|apply keep_drewN|apply keep_drew|apply keep_alloc)|exact HK.out))));have n1_:=Aside0.mk (IsS70.below (by repeat (first|(with_reducible first|exact HI0.out|apply IsS70.alloc|apply IsS70.drewN|apply IsS70.drew|apply IsS70.set_1)|exact HI0.out)) hb);have n2_:=Aside0.mk (KeepBut.trans (by repeat (first|(with_reducible first|exact HK.out|apply KeepBut.set_|apply keep_drewN|apply keep_drew|apply keep_alloc)|exact HK.out)) (KeepBut.of_below hb g none) (.inl rfl));have n3_:=Aside0.mk (below_step (by repeat (first|(with_reducible first|exact HB.out|apply below_alloc|apply pw_below_drewN|apply below_drew1|refine below_set ?_ (IsS70.ge HI0.out))|exact HB.out)) hb);clear HI0;clear HK;clear HB;have HO341:=n0_;have HI0:=n1_;have HK:=n2_;have HB:=n3_;clear n0_ n1_ n2_ n3_;clear hb ho4;obtain ⟨Ao5,co5,eo5⟩:=Kd.R_slice HO341.out;subst eo5)|((with_reducible refine gate_callee (f:=49) rfl ?_);refine goesL_ (some 5) rfl rfl Try.func49 (by kernel_rfl) rfl #[.pointer (some ⟨g,0,none⟩), .slice Ao5 y339.length co5] rfl (by (try simp only [List.map_toArray,List.map_cons,List.map_nil]);first|done|rfl|(simp only [List.length_drop,List.length_take];rfl)) ?_;(with_reducible refine (spec_l6Rd_of.calls k g s0_0 s0_1 _ _ y339 t342 t343 w0 _ ?side1 ?side2 ?side3 ?side4 ?side5 A2.out).mono ?_);(case side1=>repeat (first|(with_reducible first|exact HI0.out|apply IsS70.alloc|apply IsS70.drewN|apply IsS70.drew|apply IsS70.set_1)|exact HI0.out));(case side2=>repeat (first|(with_reducible first|exact HB.out|apply below_alloc|apply pw_below_drewN|apply below_drew1|refine below_set ?_ (IsS70.ge HI0.out))|exact HB.out));(case side3=>repeat (first|exact (Kd.R_reads' HO341.out).2.2|(with_reducible refine Kd.C_alloc ?_ _)|(with_reducible refine Kd.C_drewN ?_ _)|(with_reducible refine Kd.C_drew ?_)));(case side4=>exact (Kd.R_reads' HO341.out).2.1);(case side5=>exact far_slice (IsS70.own_ne HI0.out HO341.out (by decide)));rintro e w6 ⟨rfl,hi,hb,hk⟩;refine ⟨_,rfl,?_⟩;have n0_:=Aside0.mk (Kd.R_mono (Kd.R_keep (IsS70.apart (show IsS70 w0 _ g s0_0 s0_1 from by repeat (first|(with_reducible first|exact HI0.out|apply IsS70.alloc|apply IsS70.drewN|apply IsS70.drew|apply IsS70.set_1)|exact HI0.out)) (by (with_reducible repeat (first|apply Kd.R_alloc|apply Kd.R_drewN|apply Kd.R_drew));exact HO341.out) (by decide)) hk (fun _ h=>h.2)) (fun _ h=>h.1));have n1_:=Aside0.mk (KeepBut.trans (by repeat (first|(with_reducible first|exact HK.out|apply KeepBut.set_|apply keep_drewN|apply keep_drew|apply keep_alloc)|exact HK.out)) hk (.inl rfl));have n2_:=Aside0.mk (hb);have n3_:=Aside0.mk (hi);clear HO341;clear HK;clear HB;clear HI0;have HO341:=n0_;have HK:=n1_;have HB:=n2_;have HI0:=n3_;clear n0_ n1_ n2_ n3_;(try clear hb);(try clear hb2);(try clear hk);(try clear hi)))
 go_ret
 exact ⟨by first|rfl|(simp <;> rfl)|(simp [*] <;> rfl),by repeat (first|(with_reducible first|exact HI0.out|apply IsS70.alloc|apply IsS70.drewN|apply IsS70.drew|apply IsS70.set_1)|exact HI0.out),by repeat (first|(with_reducible first|exact HB.out|apply below_alloc|apply pw_below_drewN|apply below_drew1|refine below_set ?_ (IsS70.ge HI0.out))|exact HB.out),by repeat (first|(with_reducible first|exact HK.out|apply KeepBut.set_|apply keep_drewN|apply keep_drew|apply keep_alloc)|exact HK.out)⟩

/-! ### spec_DrawNoticeFor: function 11 -/
def spec_DrawNoticeFor.f (k:Nat) (l0:List Int):Option ((List (S30)) × ByteArray):=(spec_l6Open.f l0).bind fun bt344=>((spec_l71Groups.f k bt344.1 bt344.2).bind fun bt347=>((spec_l71Name.f k bt344.1 bt347.2).bind fun bt351=>(some (bt347.1,bt351.1))))
theorem spec_DrawNoticeFor.mono:∀ a0 k,LeO (spec_DrawNoticeFor.f k a0) (spec_DrawNoticeFor.f (k + 1) a0):=by
 intro a0 k
 unfold spec_DrawNoticeFor.f
 repeat' first
   | (with_reducible exact spec_l71Groups.mono _ _ _)
   | (with_reducible exact spec_l71Name.mono _ _ _)
   | (with_reducible exact LeO.refl _)
   | (with_reducible exact LeO.none _)
   | (with_reducible refine LeO.ite ?_ ?_)
   | (with_reducible refine LeO.bind ?_ (fun _=>?_))
   | exact spec_l71Groups.mono _ _ _
   | exact spec_l71Name.mono _ _ _
   | exact LeO.none _
   | refine LeO.ite ?_ ?_
   | refine LeO.bind ?_ (fun _=>?_)
theorem spec_DrawNoticeFor.calls (k:Nat) (A0:Option Addr) (c0:Nat) (l0:List Int) (r1:List (S30)) (r2:ByteArray) (w:World) (hr0:Kd.C (Kd.int .u8) w A0 l0.length l0) (hc0:l0.length ≤ c0) (h:spec_DrawNoticeFor.f k l0 = some (r1,r2)) :
  Calls Try.prog 11 #[.slice A0 l0.length c0] w fun e w'=>∃ v0_:Value,e = .returned (.tuple #[v0_, .string r2]) ∧ Kd.S k30 30 w' w.heap.size (fun _=>True) v0_ r1 ∧ Below w.heap.size w w':=by
 have HR0:=Aside0.mk hr0
 have HC0:=Aside0.mk hc0
 clear hr0 hc0
 have HB:=Aside0.mk (Below.refl w.heap.size w)
 have H:((spec_l6Open.f l0).bind fun bt344=>((spec_l71Groups.f k bt344.1 bt344.2).bind fun bt347=>((spec_l71Name.f k bt344.1 bt347.2).bind fun bt351=>(some (bt347.1,bt351.1))))) = some (r1,r2):=h
 clear h
 replace H:=Option.bind_eq_some_iff.mp H
 obtain ⟨⟨t344,t345⟩,A20,H⟩:=H
 replace H:((spec_l71Groups.f k t344 t345).bind fun bt347=>((spec_l71Name.f k t344 bt347.2).bind fun bt351=>(some (bt347.1,bt351.1)))) = some (r1,r2):=H
 have A2:=Aside0.mk A20
 clear A20
 replace H:=Option.bind_eq_some_iff.mp H
 obtain ⟨⟨t347,t350⟩,A30,H⟩:=H
 replace H:((spec_l71Name.f k t344 t350).bind fun bt351=>(some (t347,bt351.1))) = some (r1,r2):=H
 have A3:=Aside0.mk A30
 clear A30
 replace H:=Option.bind_eq_some_iff.mp H
 obtain ⟨⟨t351,t352⟩,A40,H⟩:=H
 replace H:(some (t347,t351)) = some (r1,r2):=H
 have A4:=Aside0.mk A40
 clear A40
 simp only [Option.some.injEq,Prod.mk.injEq] at H
 obtain ⟨rfl,rfl⟩:=H
 go_enter Try.func11,Try.ntmps11
 go_wp2_with (first|((with_reducible refine gate_callee (f:=28) rfl ?_);refine goesL_ (some 6) rfl rfl Try.func28 (by kernel_rfl) rfl #[.slice A0 l0.length c0] rfl (by (try simp only [List.map_toArray,List.map_cons,List.map_nil]);first|done|rfl|(simp only [List.length_drop,List.length_take];rfl)) ?_;(with_reducible refine (spec_l6Open.calls _ _ l0 t344 t345 w _ ?side1 ?side2 ?side3 A2.out).mono ?_);(case side1=>repeat (first|(with_reducible first|exact HB.out|apply below_alloc|apply pw_below_drewN|apply below_drew1)|exact HB.out));(case side2=>exact HR0.out);(case side3=>exact HC0.out);rintro e w5 ⟨g346,rfl,hi,hb,hb2⟩;refine ⟨_,rfl,?_⟩;have n0_:=Aside0.mk (hb);have n1_:=Aside0.mk (hi);clear HB;have HB:=n0_;have HI346:=n1_;clear n0_ n1_;(try clear hb);(try clear hb2);(try clear hk);(try clear hi))|((with_reducible refine gate_callee (f:=29) rfl ?_);refine goesL_ (some 8) rfl rfl Try.func29 (by kernel_rfl) rfl #[.pointer (some ⟨g346,0,none⟩)] rfl (by (try simp only [List.map_toArray,List.map_cons,List.map_nil]);first|done|rfl|(simp only [List.length_drop,List.length_take];rfl)) ?_;(with_reducible refine (spec_l71Groups.calls k g346 t344 t345 t347 t350 w _ ?side1 ?side2 A3.out).mono ?_);(case side1=>repeat (first|(with_reducible first|exact HI346.out|apply IsS70.alloc|apply IsS70.drewN|apply IsS70.drew|apply IsS70.set_1)|exact HI346.out));(case side2=>repeat (first|(with_reducible first|exact HB.out|apply below_alloc|apply pw_below_drewN|apply below_drew1|refine below_set ?_ (IsS70.ge HI346.out))|exact HB.out));rintro e w6 ⟨v348,rfl,ho0,hi,hb,hk⟩;refine ⟨_,rfl,?_⟩;have n0_:=Aside0.mk (Kd.S_lower ho0 (below_size (by repeat (first|(with_reducible first|exact HB.out|apply below_alloc|apply pw_below_drewN|apply below_drew1|refine below_set ?_ (IsS70.ge HI346.out))|exact HB.out))));have n1_:=Aside0.mk (hb);have n2_:=Aside0.mk (hi);clear HB;clear HI346;have HO349:=n0_;have HB:=n1_;have HI346:=n2_;clear n0_ n1_ n2_;(try clear hb);(try clear hb2);(try clear hk);(try clear hi);(try clear ho0))|((with_reducible refine gate_callee (f:=30) rfl ?_);refine goesL_ (some 10) rfl rfl Try.func30 (by kernel_rfl) rfl #[.pointer (some ⟨g346,0,none⟩)] rfl (by (try simp only [List.map_toArray,List.map_cons,List.map_nil]);first|done|rfl|(simp only [List.length_drop,List.length_take];rfl)) ?_;(with_reducible refine (spec_l71Name.calls k g346 t344 t350 t351 t352 w _ ?side1 ?side2 A4.out).mono ?_);(case side1=>repeat (first|(with_reducible first|exact HI346.out|apply IsS70.alloc|apply IsS70.drewN|apply IsS70.drew|apply IsS70.set_1)|exact HI346.out));(case side2=>repeat (first|(with_reducible first|exact HB.out|apply below_alloc|apply pw_below_drewN|apply below_drew1|refine below_set ?_ (IsS70.ge HI346.out))|exact HB.out));rintro e w7 ⟨rfl,hi,hb,hk⟩;refine ⟨_,rfl,?_⟩;have n0_:=Aside0.mk (Kd.S_mono (Kd.S_keep (IsS70.apartS (show IsS70 w _ g346 t344 t350 from by repeat (first|(with_reducible first|exact HI346.out|apply IsS70.alloc|apply IsS70.drewN|apply IsS70.drew|apply IsS70.set_1)|exact HI346.out)) (by (with_reducible repeat (first|apply Kd.S_alloc|apply Kd.S_drewN|apply Kd.S_drew));exact HO349.out) (by decide)) hk (fun _ h=>h.2)) (fun _ h=>h.1));have n1_:=Aside0.mk (hb);have n2_:=Aside0.mk (hi);clear HO349;clear HB;clear HI346;have HO349:=n0_;have HB:=n1_;have HI346:=n2_;clear n0_ n1_ n2_;(try clear hb);(try clear hb2);(try clear hk);(try clear hi)))
 go_ret2
 exact ⟨_,by first|rfl|(simp <;> rfl)|(simp [*] <;> rfl),by (with_reducible repeat (first|apply Kd.S_alloc|apply Kd.S_drewN|apply Kd.S_drew));exact HO349.out,by repeat (first|(with_reducible first|exact HB.out|apply below_alloc|apply pw_below_drewN|apply below_drew1|refine below_set ?_ (IsS70.ge HI346.out))|exact HB.out)⟩

/-! ### laws_lpRules: function 15 -/
def laws_lpRules.l0:Nat → List (S57) → List (S57) → Int → Option (Bool)
 | 0,_,_,_=>none
 | k + 1,x0,x1,x5=>if x5 < (x0.length:Int) then (if 0 ≤ x5 then (if x5 < (x1.length:Int) then (if (!(((rd_T57 x0 x5).f0) == ((rd_T57 x1 x5).f0)) || (!((((rd_T57 x0 x5).f1).toList) == (((rd_T57 x1 x5).f1).toList)))) = true then (some false) else (laws_lpRules.l0 k x0 x1 (wrap64 (x5 + 1)))) else (none)) else (none)) else (some true)
def laws_lpRules.f (k:Nat) (l0:List (S57)) (l1:List (S57)):Option (Bool):=if (l0.length:Int) = (l1.length:Int) then (laws_lpRules.l0 k l0 l1 0) else (some false)
theorem laws_lpRules.mono_l:∀ k,(∀ y0 y1 y2,LeO (laws_lpRules.l0 k y0 y1 y2) (laws_lpRules.l0 (k + 1) y0 y1 y2))
 | 0=>fun _ _ _ r h=>by simp [laws_lpRules.l0] at h
 | k + 1=>by
  have ih0:=laws_lpRules.mono_l k
  ·intro y0 y1 y2
   unfold laws_lpRules.l0
   repeat' first
   | (with_reducible exact ih0 _ _ _)
   | (with_reducible exact LeO.refl _)
   | (with_reducible exact LeO.none _)
   | (with_reducible refine LeO.ite ?_ ?_)
   | (with_reducible refine LeO.bind ?_ (fun _=>?_))
   | exact ih0 _ _ _
   | exact LeO.none _
   | refine LeO.ite ?_ ?_
   | refine LeO.bind ?_ (fun _=>?_)
theorem laws_lpRules.mono:∀ a0 a1 k,LeO (laws_lpRules.f k a0 a1) (laws_lpRules.f (k + 1) a0 a1):=by
 intro a0 a1 k
 have ih0:=laws_lpRules.mono_l k
 unfold laws_lpRules.f
 repeat' first
   | (with_reducible exact ih0 _ _ _)
   | (with_reducible exact LeO.refl _)
   | (with_reducible exact LeO.none _)
   | (with_reducible refine LeO.ite ?_ ?_)
   | (with_reducible refine LeO.bind ?_ (fun _=>?_))
   | exact ih0 _ _ _
   | exact LeO.none _
   | refine LeO.ite ?_ ?_
   | refine LeO.bind ?_ (fun _=>?_)
theorem laws_lpRules.calls (k:Nat) (A0:Option Addr) (c0:Nat) (l0:List (S57)) (A1:Option Addr) (c1:Nat) (l1:List (S57)) (r:Bool) (w:World) (hr0:Kd.C k57 w A0 l0.length l0) (hc0:l0.length ≤ c0) (hr1:Kd.C k57 w A1 l1.length l1) (hc1:l1.length ≤ c1) (h:laws_lpRules.f k l0 l1 = some r) :
  Calls Try.prog 15 #[.slice A0 l0.length c0, .slice A1 l1.length c1] w fun e w'=>e = .returned (.bool r) ∧ Drawn0 w w':=by
 have hu57:=Try.underlying57
 have HR0:=Aside0.mk hr0
 have HC0:=Aside0.mk hc0
 clear hr0 hc0
 have HR1:=Aside0.mk hr1
 have HC1:=Aside0.mk hc1
 clear hr1 hc1
 have H:(if (l0.length:Int) = (l1.length:Int) then (laws_lpRules.l0 k l0 l1 0) else (some false)) = some r:=h
 clear h
 by_cases c3:(l0.length:Int) = (l1.length:Int)
 ·rw [if_pos c3] at H
  have c3b0:((l0.length:Int) == (l1.length:Int)) = true:=beq_iff_eq.mpr c3
  have c3b1:((l0.length:Int) != (l1.length:Int)) = false:=bne_eq_false_iff_eq.mpr c3
  have c3b2:(l0.length == l1.length) = true:=by first|simpa using c3|(simp at c3 ⊢;omega)
  clear c3
  have H':=Aside0.mk H
  clear H
  go_enter Try.func15,Try.ntmps15
  go_wp2
  repeat (go_quiet (fail);try go_wp2)
  go_loopg [5] k (fun kq v5 w'=>∃ (x5_1:Int),v5 = .int .i64 x5_1 ∧ Aside0 (laws_lpRules.l0 kq l0 l1 x5_1 = some r) ∧ Aside0 (kq ≤ k) ∧ Drawn0 w w')
  case atStart=>exact ⟨(0),(by first|rfl|(simp;done)|(simp only [i64_w,i32_w];done)|(simp only [i64_w,i32_w];rfl)|(simp [*];done)|(simp [emp_bne,emp_beq];done)),H',⟨Nat.le_refl _⟩,by repeat (first|exact Drawn0.refl _|apply Drawn0.step)⟩
  case round =>
   clear H'
   try clear c1
   try clear p2
   try clear c3
   try clear c3b0
   try clear c3b1
   try clear c3b2
   obtain ⟨x5_1,rfl,HA,HK1,⟨m1,rfl⟩⟩:=hrel
   cases gk with
   | zero=>exact absurd HA.out (by simp [laws_lpRules.l0])
   | succ k1 =>
    have H:=HA.out
    clear HA
    simp only [laws_lpRules.l0] at H
    by_cases c4:x5_1 < (l0.length:Int)
    ·rw [if_pos c4] at H
     have c4b0:decide (x5_1 < (l0.length:Int)) = true:=decide_eq_true c4
     clear c4
     by_cases c5:0 ≤ x5_1
     ·rw [if_pos c5] at H
      have c5b0:decide (0 ≤ x5_1) = true:=decide_eq_true c5
      clear c5
      by_cases c6:x5_1 < (l1.length:Int)
      ·rw [if_pos c6] at H
       have c6b0:decide (x5_1 < (l1.length:Int)) = true:=decide_eq_true c6
       clear c6
       by_cases c7:(!(((rd_T57 l0 x5_1).f0) == ((rd_T57 l1 x5_1).f0)) || (!((((rd_T57 l0 x5_1).f1).toList) == (((rd_T57 l1 x5_1).f1).toList)))) = true
       ·rw [if_pos c7] at H
        have c7b0:(!(((rd_T57 l0 x5_1).f0) == ((rd_T57 l1 x5_1).f0)) || (!((((rd_T57 l0 x5_1).f1).toList) == (((rd_T57 l1 x5_1).f1).toList)))) = true:=c7
        clear c7
        obtain rfl:=Option.some.inj H
        have p353:0 ≤ (x5_1:Int):=of_decide_eq_true (by first|(with_reducible assumption)|assumption)
        have q353:x5_1 < (l0.length:Int):=of_decide_eq_true (by first|(with_reducible assumption)|assumption)
        obtain ⟨ad353,e353,hx353_0,hx353_1⟩:=at_T57 HR0.out x5_1 p353 q353
        cases e353
        replace p353:=eq_true p353
        replace q353:=eq_true q353
        have p354:0 ≤ (x5_1:Int):=of_decide_eq_true (by first|(with_reducible assumption)|assumption)
        have q354:x5_1 < (l1.length:Int):=of_decide_eq_true (by first|(with_reducible assumption)|assumption)
        obtain ⟨ad354,e354,hx354_0,hx354_1⟩:=at_T57 HR1.out x5_1 p354 q354
        cases e354
        replace p354:=eq_true p354
        replace q354:=eq_true q354
        go_wp2
        repeat (go_quiet (fail);try go_wp2)
        go_ret
        exact ⟨by first|rfl|(simp;done)|(simp only [i64_w,i32_w];done)|(simp only [i64_w,i32_w];rfl)|(simp [*];done)|(simp [emp_bne,emp_beq];done),by repeat (first|exact Drawn0.refl _|apply Drawn0.step)⟩
       ·rw [if_neg c7] at H
        have c7b0:(!(((rd_T57 l0 x5_1).f0) == ((rd_T57 l1 x5_1).f0)) || (!((((rd_T57 l0 x5_1).f1).toList) == (((rd_T57 l1 x5_1).f1).toList)))) = false:=by simpa using c7
        clear c7
        have H':=Aside0.mk H
        clear H
        have p353:0 ≤ (x5_1:Int):=of_decide_eq_true (by first|(with_reducible assumption)|assumption)
        have q353:x5_1 < (l0.length:Int):=of_decide_eq_true (by first|(with_reducible assumption)|assumption)
        obtain ⟨ad353,e353,hx353_0,hx353_1⟩:=at_T57 HR0.out x5_1 p353 q353
        cases e353
        replace p353:=eq_true p353
        replace q353:=eq_true q353
        have p354:0 ≤ (x5_1:Int):=of_decide_eq_true (by first|(with_reducible assumption)|assumption)
        have q354:x5_1 < (l1.length:Int):=of_decide_eq_true (by first|(with_reducible assumption)|assumption)
        obtain ⟨ad354,e354,hx354_0,hx354_1⟩:=at_T57 HR1.out x5_1 p354 q354
        cases e354
        replace p354:=eq_true p354
        replace q354:=eq_true q354
        go_wp2
        repeat (go_quiet (fail);try go_wp2)
        go_roundg k1
        case measure=>have:=HK1.out;omega
        case rel=>exact ⟨(wrap64 (x5_1 + 1)),(by first|rfl|(simp;done)|(simp only [i64_w,i32_w];done)|(simp only [i64_w,i32_w];rfl)|(simp [*];done)|(simp [emp_bne,emp_beq];done)),H',⟨by have:=HK1.out;omega⟩,by repeat (first|exact Drawn0.refl _|apply Drawn0.step)⟩
      ·rw [if_neg c6] at H
       exact absurd H (by simp)
     ·rw [if_neg c5] at H
      exact absurd H (by simp)
    ·rw [if_neg c4] at H
     have c4b0:decide (x5_1 < (l0.length:Int)) = false:=decide_eq_false c4
     clear c4
     obtain rfl:=Option.some.inj H
     go_wp2
     repeat (go_quiet (fail);try go_wp2)
     go_ret
     exact ⟨by first|rfl|(simp;done)|(simp only [i64_w,i32_w];done)|(simp only [i64_w,i32_w];rfl)|(simp [*];done)|(simp [emp_bne,emp_beq];done),by repeat (first|exact Drawn0.refl _|apply Drawn0.step)⟩
 ·rw [if_neg c3] at H
  have c3b0:((l0.length:Int) == (l1.length:Int)) = false:=beq_eq_false_iff_ne.mpr c3
  have c3b1:((l0.length:Int) != (l1.length:Int)) = true:=bne_iff_ne.mpr c3
  have c3b2:(l0.length == l1.length) = false:=by first|simpa using c3|(simp at c3 ⊢;omega)
  obtain rfl:=Option.some.inj H
  go_enter Try.func15,Try.ntmps15
  go_wp2
  repeat (go_quiet (fail);try go_wp2)
  go_ret
  exact ⟨by first|rfl|(simp;done)|(simp only [i64_w,i32_w];done)|(simp only [i64_w,i32_w];rfl)|(simp [*];done)|(simp [emp_bne,emp_beq];done),by repeat (first|exact Drawn0.refl _|apply Drawn0.step)⟩

/-! ### laws_lpTexts: function 17 -/
def laws_lpTexts.l0:Nat → List ByteArray → List ByteArray → Int → Option (Bool)
 | 0,_,_,_=>none
 | k + 1,x0,x1,x5=>if x5 < (x0.length:Int) then (if 0 ≤ x5 then (if x5 < (x1.length:Int) then (if (rdOf ByteArray.empty x0 x5).toList = (rdOf ByteArray.empty x1 x5).toList then (laws_lpTexts.l0 k x0 x1 (wrap64 (x5 + 1))) else (some false)) else (none)) else (none)) else (some true)
def laws_lpTexts.f (k:Nat) (l0:List ByteArray) (l1:List ByteArray):Option (Bool):=if (l0.length:Int) = (l1.length:Int) then (laws_lpTexts.l0 k l0 l1 0) else (some false)
theorem laws_lpTexts.mono_l:∀ k,(∀ y0 y1 y2,LeO (laws_lpTexts.l0 k y0 y1 y2) (laws_lpTexts.l0 (k + 1) y0 y1 y2))
 | 0=>fun _ _ _ r h=>by simp [laws_lpTexts.l0] at h
 | k + 1=>by
  have ih0:=laws_lpTexts.mono_l k
  ·intro y0 y1 y2
   unfold laws_lpTexts.l0
   repeat' first
   | (with_reducible exact ih0 _ _ _)
   | (with_reducible exact LeO.refl _)
   | (with_reducible exact LeO.none _)
   | (with_reducible refine LeO.ite ?_ ?_)
   | (with_reducible refine LeO.bind ?_ (fun _=>?_))
   | exact ih0 _ _ _
   | exact LeO.none _
   | refine LeO.ite ?_ ?_
   | refine LeO.bind ?_ (fun _=>?_)
theorem laws_lpTexts.mono:∀ a0 a1 k,LeO (laws_lpTexts.f k a0 a1) (laws_lpTexts.f (k + 1) a0 a1):=by
 intro a0 a1 k
 have ih0:=laws_lpTexts.mono_l k
 unfold laws_lpTexts.f
 repeat' first
   | (with_reducible exact ih0 _ _ _)
   | (with_reducible exact LeO.refl _)
   | (with_reducible exact LeO.none _)
   | (with_reducible refine LeO.ite ?_ ?_)
   | (with_reducible refine LeO.bind ?_ (fun _=>?_))
   | exact ih0 _ _ _
   | exact LeO.none _
   | refine LeO.ite ?_ ?_
   | refine LeO.bind ?_ (fun _=>?_)
theorem laws_lpTexts.calls (k:Nat) (A0:Option Addr) (c0:Nat) (l0:List ByteArray) (A1:Option Addr) (c1:Nat) (l1:List ByteArray) (r:Bool) (w:World) (hr0:Kd.C Kd.string w A0 l0.length l0) (hc0:l0.length ≤ c0) (hr1:Kd.C Kd.string w A1 l1.length l1) (hc1:l1.length ≤ c1) (h:laws_lpTexts.f k l0 l1 = some r) :
  Calls Try.prog 17 #[.slice A0 l0.length c0, .slice A1 l1.length c1] w fun e w'=>e = .returned (.bool r) ∧ Drawn0 w w':=by
 have HR0:=Aside0.mk hr0
 have HC0:=Aside0.mk hc0
 clear hr0 hc0
 have HR1:=Aside0.mk hr1
 have HC1:=Aside0.mk hc1
 clear hr1 hc1
 have H:(if (l0.length:Int) = (l1.length:Int) then (laws_lpTexts.l0 k l0 l1 0) else (some false)) = some r:=h
 clear h
 by_cases c3:(l0.length:Int) = (l1.length:Int)
 ·rw [if_pos c3] at H
  have c3b0:((l0.length:Int) == (l1.length:Int)) = true:=beq_iff_eq.mpr c3
  have c3b1:((l0.length:Int) != (l1.length:Int)) = false:=bne_eq_false_iff_eq.mpr c3
  have c3b2:(l0.length == l1.length) = true:=by first|simpa using c3|(simp at c3 ⊢;omega)
  clear c3
  have H':=Aside0.mk H
  clear H
  go_enter Try.func17,Try.ntmps17
  go_wp2
  repeat (go_quiet (fail);try go_wp2)
  go_loopg [5] k (fun kq v5 w'=>∃ (x5_1:Int),v5 = .int .i64 x5_1 ∧ Aside0 (laws_lpTexts.l0 kq l0 l1 x5_1 = some r) ∧ Aside0 (kq ≤ k) ∧ Drawn0 w w')
  case atStart=>exact ⟨(0),(by first|rfl|(simp;done)|(simp only [i64_w,i32_w];done)|(simp only [i64_w,i32_w];rfl)|(simp [*];done)|(simp [emp_bne,emp_beq];done)),H',⟨Nat.le_refl _⟩,by repeat (first|exact Drawn0.refl _|apply Drawn0.step)⟩
  case round =>
   clear H'
   try clear c1
   try clear p2
   try clear c3
   try clear c3b0
   try clear c3b1
   try clear c3b2
   obtain ⟨x5_1,rfl,HA,HK1,⟨m1,rfl⟩⟩:=hrel
   cases gk with
   | zero=>exact absurd HA.out (by simp [laws_lpTexts.l0])
   | succ k1 =>
    have H:=HA.out
    clear HA
    simp only [laws_lpTexts.l0] at H
    by_cases c4:x5_1 < (l0.length:Int)
    ·rw [if_pos c4] at H
     have c4b0:decide (x5_1 < (l0.length:Int)) = true:=decide_eq_true c4
     clear c4
     by_cases c5:0 ≤ x5_1
     ·rw [if_pos c5] at H
      have c5b0:decide (0 ≤ x5_1) = true:=decide_eq_true c5
      clear c5
      by_cases c6:x5_1 < (l1.length:Int)
      ·rw [if_pos c6] at H
       have c6b0:decide (x5_1 < (l1.length:Int)) = true:=decide_eq_true c6
       clear c6
       by_cases c7:(rdOf ByteArray.empty l0 x5_1).toList = (rdOf ByteArray.empty l1 x5_1).toList
       ·rw [if_pos c7] at H
        have c7b0:((rdOf ByteArray.empty l0 x5_1).toList == (rdOf ByteArray.empty l1 x5_1).toList) = true:=beq_iff_eq.mpr c7
        have c7b1:((rdOf ByteArray.empty l0 x5_1).toList != (rdOf ByteArray.empty l1 x5_1).toList) = false:=bne_eq_false_iff_eq.mpr c7
        clear c7
        have H':=Aside0.mk H
        clear H
        have p355:0 ≤ (x5_1:Int):=of_decide_eq_true (by first|(with_reducible assumption)|assumption)
        have q355:x5_1 < (l0.length:Int):=of_decide_eq_true (by first|(with_reducible assumption)|assumption)
        obtain ⟨ad355,e355,hx355_0⟩:=Kd.at_string HR0.out x5_1 p355 q355
        cases e355
        replace p355:=eq_true p355
        replace q355:=eq_true q355
        have p356:0 ≤ (x5_1:Int):=of_decide_eq_true (by first|(with_reducible assumption)|assumption)
        have q356:x5_1 < (l1.length:Int):=of_decide_eq_true (by first|(with_reducible assumption)|assumption)
        obtain ⟨ad356,e356,hx356_0⟩:=Kd.at_string HR1.out x5_1 p356 q356
        cases e356
        replace p356:=eq_true p356
        replace q356:=eq_true q356
        go_wp2
        repeat (go_quiet (fail);try go_wp2)
        go_roundg k1
        case measure=>have:=HK1.out;omega
        case rel=>exact ⟨(wrap64 (x5_1 + 1)),(by first|rfl|(simp;done)|(simp only [i64_w,i32_w];done)|(simp only [i64_w,i32_w];rfl)|(simp [*];done)|(simp [emp_bne,emp_beq];done)),H',⟨by have:=HK1.out;omega⟩,by repeat (first|exact Drawn0.refl _|apply Drawn0.step)⟩
       ·rw [if_neg c7] at H
        have c7b0:((rdOf ByteArray.empty l0 x5_1).toList == (rdOf ByteArray.empty l1 x5_1).toList) = false:=beq_eq_false_iff_ne.mpr c7
        have c7b1:((rdOf ByteArray.empty l0 x5_1).toList != (rdOf ByteArray.empty l1 x5_1).toList) = true:=bne_iff_ne.mpr c7
        obtain rfl:=Option.some.inj H
        have p355:0 ≤ (x5_1:Int):=of_decide_eq_true (by first|(with_reducible assumption)|assumption)
        have q355:x5_1 < (l0.length:Int):=of_decide_eq_true (by first|(with_reducible assumption)|assumption)
        obtain ⟨ad355,e355,hx355_0⟩:=Kd.at_string HR0.out x5_1 p355 q355
        cases e355
        replace p355:=eq_true p355
        replace q355:=eq_true q355
        have p356:0 ≤ (x5_1:Int):=of_decide_eq_true (by first|(with_reducible assumption)|assumption)
        have q356:x5_1 < (l1.length:Int):=of_decide_eq_true (by first|(with_reducible assumption)|assumption)
        obtain ⟨ad356,e356,hx356_0⟩:=Kd.at_string HR1.out x5_1 p356 q356
        cases e356
        replace p356:=eq_true p356
        replace q356:=eq_true q356
        go_wp2
        repeat (go_quiet (fail);try go_wp2)
        go_ret
        exact ⟨by first|rfl|(simp;done)|(simp only [i64_w,i32_w];done)|(simp only [i64_w,i32_w];rfl)|(simp [*];done)|(simp [emp_bne,emp_beq];done),by repeat (first|exact Drawn0.refl _|apply Drawn0.step)⟩
      ·rw [if_neg c6] at H
       exact absurd H (by simp)
     ·rw [if_neg c5] at H
      exact absurd H (by simp)
    ·rw [if_neg c4] at H
     have c4b0:decide (x5_1 < (l0.length:Int)) = false:=decide_eq_false c4
     clear c4
     obtain rfl:=Option.some.inj H
     go_wp2
     repeat (go_quiet (fail);try go_wp2)
     go_ret
     exact ⟨by first|rfl|(simp;done)|(simp only [i64_w,i32_w];done)|(simp only [i64_w,i32_w];rfl)|(simp [*];done)|(simp [emp_bne,emp_beq];done),by repeat (first|exact Drawn0.refl _|apply Drawn0.step)⟩
 ·rw [if_neg c3] at H
  have c3b0:((l0.length:Int) == (l1.length:Int)) = false:=beq_eq_false_iff_ne.mpr c3
  have c3b1:((l0.length:Int) != (l1.length:Int)) = true:=bne_iff_ne.mpr c3
  have c3b2:(l0.length == l1.length) = false:=by first|simpa using c3|(simp at c3 ⊢;omega)
  obtain rfl:=Option.some.inj H
  go_enter Try.func17,Try.ntmps17
  go_wp2
  repeat (go_quiet (fail);try go_wp2)
  go_ret
  exact ⟨by first|rfl|(simp;done)|(simp only [i64_w,i32_w];done)|(simp only [i64_w,i32_w];rfl)|(simp [*];done)|(simp [emp_bne,emp_beq];done),by repeat (first|exact Drawn0.refl _|apply Drawn0.step)⟩

/-! ### laws_lpGroup: function 13 -/
def laws_lpGroup.f (k:Nat) (l0_0:List ByteArray) (l0_1:List (S57)) (a0_2:Int) (l1_0:List ByteArray) (l1_1:List (S57)) (a1_2:Int):Option (Bool):=if a0_2 = a1_2 then ((laws_lpTexts.f k l0_0 l1_0).bind fun t359=>(if t359 = true then ((laws_lpRules.f k l0_1 l1_1).bind fun t360=>(some t360)) else (some false))) else (some false)
theorem laws_lpGroup.mono:∀ a0 a1 a2 a3 a4 a5 k,LeO (laws_lpGroup.f k a0 a1 a2 a3 a4 a5) (laws_lpGroup.f (k + 1) a0 a1 a2 a3 a4 a5):=by
 intro a0 a1 a2 a3 a4 a5 k
 unfold laws_lpGroup.f
 repeat' first
   | (with_reducible exact laws_lpRules.mono _ _ _)
   | (with_reducible exact laws_lpTexts.mono _ _ _)
   | (with_reducible exact LeO.refl _)
   | (with_reducible exact LeO.none _)
   | (with_reducible refine LeO.ite ?_ ?_)
   | (with_reducible refine LeO.bind ?_ (fun _=>?_))
   | exact laws_lpRules.mono _ _ _
   | exact laws_lpTexts.mono _ _ _
   | exact LeO.none _
   | refine LeO.ite ?_ ?_
   | refine LeO.bind ?_ (fun _=>?_)
theorem laws_lpGroup.calls (k:Nat) (A0_0:Option Addr) (c0_0:Nat) (l0_0:List ByteArray) (A0_1:Option Addr) (c0_1:Nat) (l0_1:List (S57)) (a0_2:Int) (A1_0:Option Addr) (c1_0:Nat) (l1_0:List ByteArray) (A1_1:Option Addr) (c1_1:Nat) (l1_1:List (S57)) (a1_2:Int) (r:Bool) (w:World) (hr0_0:Kd.C Kd.string w A0_0 l0_0.length l0_0) (hc0_0:l0_0.length ≤ c0_0) (hr0_1:Kd.C k57 w A0_1 l0_1.length l0_1) (hc0_1:l0_1.length ≤ c0_1) (hr1_0:Kd.C Kd.string w A1_0 l1_0.length l1_0) (hc1_0:l1_0.length ≤ c1_0) (hr1_1:Kd.C k57 w A1_1 l1_1.length l1_1) (hc1_1:l1_1.length ≤ c1_1) (h:laws_lpGroup.f k l0_0 l0_1 a0_2 l1_0 l1_1 a1_2 = some r) :
  Calls Try.prog 13 #[.agg #[.slice A0_0 l0_0.length c0_0, .slice A0_1 l0_1.length c0_1, .int .i64 a0_2], .agg #[.slice A1_0 l1_0.length c1_0, .slice A1_1 l1_1.length c1_1, .int .i64 a1_2]] w fun e w'=>e = .returned (.bool r) ∧ Below w.heap.size w w':=by
 have hu30:=Try.underlying30
 have HR0_0:=Aside0.mk hr0_0
 have HC0_0:=Aside0.mk hc0_0
 clear hr0_0 hc0_0
 have HR0_1:=Aside0.mk hr0_1
 have HC0_1:=Aside0.mk hc0_1
 clear hr0_1 hc0_1
 have HR1_0:=Aside0.mk hr1_0
 have HC1_0:=Aside0.mk hc1_0
 clear hr1_0 hc1_0
 have HR1_1:=Aside0.mk hr1_1
 have HC1_1:=Aside0.mk hc1_1
 clear hr1_1 hc1_1
 have HB:=Aside0.mk (Below.refl w.heap.size w)
 have H:(if a0_2 = a1_2 then ((laws_lpTexts.f k l0_0 l1_0).bind fun t359=>(if t359 = true then ((laws_lpRules.f k l0_1 l1_1).bind fun t360=>(some t360)) else (some false))) else (some false)) = some r:=h
 clear h
 by_cases c3:a0_2 = a1_2
 ·rw [if_pos c3] at H
  have c3b0:(a0_2 == a1_2) = true:=beq_iff_eq.mpr c3
  have c3b1:(a0_2 != a1_2) = false:=bne_eq_false_iff_eq.mpr c3
  clear c3
  replace H:=Option.bind_eq_some_iff.mp H
  obtain ⟨t359,A40,H⟩:=H
  replace H:(if t359 = true then ((laws_lpRules.f k l0_1 l1_1).bind fun t360=>(some t360)) else (some false)) = some r:=H
  have A4:=Aside0.mk A40
  clear A40
  by_cases c5:t359 = true
  ·subst c5
   have H1:((laws_lpRules.f k l0_1 l1_1).bind fun t360=>(some t360)) = some r:=by rw [if_pos rfl] at H;exact H
   clear H
   have H:=H1
   clear H1
   replace H:=Option.bind_eq_some_iff.mp H
   obtain ⟨t360,A60,H⟩:=H
   replace H:(some t360) = some r:=H
   have A6:=Aside0.mk A60
   clear A60
   obtain rfl:=Option.some.inj H
   go_enter Try.func13,Try.ntmps13
   go_wp2_with (first|((with_reducible refine gate_dst (N:=2) rfl ?_);refine box_event ?hg (N:=2) ?hd (cs:=#[.slice A0_0 l0_0.length c0_0, .slice A0_1 l0_1.length c0_1, .int .i64 a0_2]) (t:=30) ?hr ?_;(case hd=>rfl);(case hg=>rfl);(case hr=>first|(go_simp;done)|(go_simp;rfl));intro gb357 hg w7 hbox hb;have n0_:=Aside0.mk (below_step (by repeat (first|(with_reducible first|exact HB.out|apply below_alloc|apply pw_below_drewN|apply below_drew1)|exact HB.out)) hb);have n1_:=Aside0.mk (hbox);have n2_:=Aside0.mk ((by rw [hg];exact (below_size (by repeat (first|(with_reducible first|exact HB.out|apply below_alloc|apply pw_below_drewN|apply below_drew1)|exact HB.out))):w.heap.size ≤ gb357));have n3_:=n2_;clear HB;have HB:=n0_;have BK357:=n1_;have GW357:=n2_;have GE357:=n3_;clear n0_ n1_ n2_ n3_;clear hb hbox hg)|((with_reducible refine gate_dst (N:=3) rfl ?_);refine box_event ?hg (N:=3) ?hd (cs:=#[.slice A1_0 l1_0.length c1_0, .slice A1_1 l1_1.length c1_1, .int .i64 a1_2]) (t:=30) ?hr ?_;(case hd=>rfl);(case hg=>rfl);(case hr=>first|(go_simp;done)|(go_simp;rfl));intro gb358 hg w8 hbox hb;have n0_:=Aside0.mk (blk_below (g:=gb357) (o:=.cells #[.slice A0_0 l0_0.length c0_0, .slice A0_1 l0_1.length c0_1, .int .i64 a0_2] 30 (0,0)) (by (with_reducible repeat (first|refine blk_drewN ?_ _|refine blk_drew ?_|refine blk_alloc ?_ _));exact BK357.out) hb);have n1_:=Aside0.mk (below_step (by repeat (first|(with_reducible first|exact HB.out|apply below_alloc|apply pw_below_drewN|apply below_drew1|refine below_set ?_ GE357.out)|exact HB.out)) hb);have n2_:=Aside0.mk (hbox);have n3_:=Aside0.mk ((by rw [hg];exact (below_size (by repeat (first|(with_reducible first|exact HB.out|apply below_alloc|apply pw_below_drewN|apply below_drew1|refine below_set ?_ GE357.out)|exact HB.out))):w.heap.size ≤ gb358));have n4_:=n3_;have n5_:=Aside0.mk ((by rw [hg];exact Nat.ne_of_lt (blk_lt (g:=gb357) (o:=.cells #[.slice A0_0 l0_0.length c0_0, .slice A0_1 l0_1.length c0_1, .int .i64 a0_2] 30 (0,0)) (by (with_reducible repeat (first|refine blk_drewN ?_ _|refine blk_drew ?_|refine blk_alloc ?_ _));exact BK357.out)):gb357 ≠ gb358));have n6_:=Aside0.mk ((by rw [hg];exact Nat.ne_of_gt (blk_lt (g:=gb357) (o:=.cells #[.slice A0_0 l0_0.length c0_0, .slice A0_1 l0_1.length c0_1, .int .i64 a0_2] 30 (0,0)) (by (with_reducible repeat (first|refine blk_drewN ?_ _|refine blk_drew ?_|refine blk_alloc ?_ _));exact BK357.out)):gb358 ≠ gb357));clear BK357;clear HB;have BK357:=n0_;have HB:=n1_;have BK358:=n2_;have GW358:=n3_;have GE358:=n4_;have NB357_358:=n5_;have NB358_357:=n6_;clear n0_ n1_ n2_ n3_ n4_ n5_ n6_;clear hb hbox hg;have hnb9:=NB357_358.out;have hnc9:=NB358_357.out;have hcz10_0:w8.cell? ⟨gb357,0,none⟩ = some (.slice A0_0 l0_0.length c0_0):=(blk_cell BK357.out 0).trans rfl;have hcz10_1:w8.cell? ⟨gb357,1,none⟩ = some (.slice A0_1 l0_1.length c0_1):=(blk_cell BK357.out 1).trans rfl;have hcz10_2:w8.cell? ⟨gb357,2,none⟩ = some (.int .i64 a0_2):=(blk_cell BK357.out 2).trans rfl;have hfz10_0:=blk_frozen BK357.out 0;have hfz10_1:=blk_frozen BK357.out 1;have hfz10_2:=blk_frozen BK357.out 2;have hcz11_0:w8.cell? ⟨gb358,0,none⟩ = some (.slice A1_0 l1_0.length c1_0):=(blk_cell BK358.out 0).trans rfl;have hcz11_1:w8.cell? ⟨gb358,1,none⟩ = some (.slice A1_1 l1_1.length c1_1):=(blk_cell BK358.out 1).trans rfl;have hcz11_2:w8.cell? ⟨gb358,2,none⟩ = some (.int .i64 a1_2):=(blk_cell BK358.out 2).trans rfl;have hfz11_0:=blk_frozen BK358.out 0;have hfz11_1:=blk_frozen BK358.out 1;have hfz11_2:=blk_frozen BK358.out 2)|(go_at_call 17;(with_reducible refine (laws_lpTexts.calls k _ _ l0_0 _ _ l1_0 true _ ?side1 ?side2 ?side3 ?side4 A4.out).mono ?_);(case side1=>repeat (first|exact (Kd.C_below HR0_0.out HB.out)|(with_reducible refine Kd.C_alloc ?_ _)|(with_reducible refine Kd.C_drewN ?_ _)|(with_reducible refine Kd.C_drew ?_)));(case side2=>exact HC0_0.out);(case side3=>repeat (first|exact (Kd.C_below HR1_0.out HB.out)|(with_reducible refine Kd.C_alloc ?_ _)|(with_reducible refine Kd.C_drewN ?_ _)|(with_reducible refine Kd.C_drew ?_)));(case side4=>exact HC1_0.out);rintro e w' ⟨rfl,⟨nd,rfl⟩⟩)|(go_at_call 15;(with_reducible refine (laws_lpRules.calls k _ _ l0_1 _ _ l1_1 t360 _ ?side1 ?side2 ?side3 ?side4 A6.out).mono ?_);(case side1=>repeat (first|exact (Kd.C_below HR0_1.out (by repeat (first|(with_reducible first|exact HB.out|apply below_alloc|apply pw_below_drewN|apply below_drew1|refine below_set ?_ GE357.out|refine below_set ?_ GE358.out)|exact HB.out)))|(with_reducible refine Kd.C_alloc ?_ _)|(with_reducible refine Kd.C_drewN ?_ _)|(with_reducible refine Kd.C_drew ?_)));(case side2=>exact HC0_1.out);(case side3=>repeat (first|exact (Kd.C_below HR1_1.out (by repeat (first|(with_reducible first|exact HB.out|apply below_alloc|apply pw_below_drewN|apply below_drew1|refine below_set ?_ GE357.out|refine below_set ?_ GE358.out)|exact HB.out)))|(with_reducible refine Kd.C_alloc ?_ _)|(with_reducible refine Kd.C_drewN ?_ _)|(with_reducible refine Kd.C_drew ?_)));(case side4=>exact HC1_1.out);rintro e w' ⟨rfl,⟨nd,rfl⟩⟩))
   go_ret
   exact ⟨by first|rfl|(simp <;> rfl)|(simp [*] <;> rfl),by repeat (first|(with_reducible first|exact HB.out|apply below_alloc|apply pw_below_drewN|apply below_drew1|refine below_set ?_ GE357.out|refine below_set ?_ GE358.out)|exact HB.out)⟩
  ·replace c5:=Bool.eq_false_iff.mpr c5
   subst c5
   have H1:(some false) = some r:=by rw [if_neg (show ¬ (false = true) by decide)] at H;exact H
   clear H
   have H:=H1
   clear H1
   obtain rfl:=Option.some.inj H
   go_enter Try.func13,Try.ntmps13
   go_wp2_with (first|((with_reducible refine gate_dst (N:=2) rfl ?_);refine box_event ?hg (N:=2) ?hd (cs:=#[.slice A0_0 l0_0.length c0_0, .slice A0_1 l0_1.length c0_1, .int .i64 a0_2]) (t:=30) ?hr ?_;(case hd=>rfl);(case hg=>rfl);(case hr=>first|(go_simp;done)|(go_simp;rfl));intro gb357 hg w12 hbox hb;have n0_:=Aside0.mk (below_step (by repeat (first|(with_reducible first|exact HB.out|apply below_alloc|apply pw_below_drewN|apply below_drew1)|exact HB.out)) hb);have n1_:=Aside0.mk (hbox);have n2_:=Aside0.mk ((by rw [hg];exact (below_size (by repeat (first|(with_reducible first|exact HB.out|apply below_alloc|apply pw_below_drewN|apply below_drew1)|exact HB.out))):w.heap.size ≤ gb357));have n3_:=n2_;clear HB;have HB:=n0_;have BK357:=n1_;have GW357:=n2_;have GE357:=n3_;clear n0_ n1_ n2_ n3_;clear hb hbox hg)|((with_reducible refine gate_dst (N:=3) rfl ?_);refine box_event ?hg (N:=3) ?hd (cs:=#[.slice A1_0 l1_0.length c1_0, .slice A1_1 l1_1.length c1_1, .int .i64 a1_2]) (t:=30) ?hr ?_;(case hd=>rfl);(case hg=>rfl);(case hr=>first|(go_simp;done)|(go_simp;rfl));intro gb358 hg w13 hbox hb;have n0_:=Aside0.mk (blk_below (g:=gb357) (o:=.cells #[.slice A0_0 l0_0.length c0_0, .slice A0_1 l0_1.length c0_1, .int .i64 a0_2] 30 (0,0)) (by (with_reducible repeat (first|refine blk_drewN ?_ _|refine blk_drew ?_|refine blk_alloc ?_ _));exact BK357.out) hb);have n1_:=Aside0.mk (below_step (by repeat (first|(with_reducible first|exact HB.out|apply below_alloc|apply pw_below_drewN|apply below_drew1|refine below_set ?_ GE357.out)|exact HB.out)) hb);have n2_:=Aside0.mk (hbox);have n3_:=Aside0.mk ((by rw [hg];exact (below_size (by repeat (first|(with_reducible first|exact HB.out|apply below_alloc|apply pw_below_drewN|apply below_drew1|refine below_set ?_ GE357.out)|exact HB.out))):w.heap.size ≤ gb358));have n4_:=n3_;have n5_:=Aside0.mk ((by rw [hg];exact Nat.ne_of_lt (blk_lt (g:=gb357) (o:=.cells #[.slice A0_0 l0_0.length c0_0, .slice A0_1 l0_1.length c0_1, .int .i64 a0_2] 30 (0,0)) (by (with_reducible repeat (first|refine blk_drewN ?_ _|refine blk_drew ?_|refine blk_alloc ?_ _));exact BK357.out)):gb357 ≠ gb358));have n6_:=Aside0.mk ((by rw [hg];exact Nat.ne_of_gt (blk_lt (g:=gb357) (o:=.cells #[.slice A0_0 l0_0.length c0_0, .slice A0_1 l0_1.length c0_1, .int .i64 a0_2] 30 (0,0)) (by (with_reducible repeat (first|refine blk_drewN ?_ _|refine blk_drew ?_|refine blk_alloc ?_ _));exact BK357.out)):gb358 ≠ gb357));clear BK357;clear HB;have BK357:=n0_;have HB:=n1_;have BK358:=n2_;have GW358:=n3_;have GE358:=n4_;have NB357_358:=n5_;have NB358_357:=n6_;clear n0_ n1_ n2_ n3_ n4_ n5_ n6_;clear hb hbox hg;have hnb14:=NB357_358.out;have hnc14:=NB358_357.out;have hcz15_0:w13.cell? ⟨gb357,0,none⟩ = some (.slice A0_0 l0_0.length c0_0):=(blk_cell BK357.out 0).trans rfl;have hcz15_1:w13.cell? ⟨gb357,1,none⟩ = some (.slice A0_1 l0_1.length c0_1):=(blk_cell BK357.out 1).trans rfl;have hcz15_2:w13.cell? ⟨gb357,2,none⟩ = some (.int .i64 a0_2):=(blk_cell BK357.out 2).trans rfl;have hfz15_0:=blk_frozen BK357.out 0;have hfz15_1:=blk_frozen BK357.out 1;have hfz15_2:=blk_frozen BK357.out 2;have hcz16_0:w13.cell? ⟨gb358,0,none⟩ = some (.slice A1_0 l1_0.length c1_0):=(blk_cell BK358.out 0).trans rfl;have hcz16_1:w13.cell? ⟨gb358,1,none⟩ = some (.slice A1_1 l1_1.length c1_1):=(blk_cell BK358.out 1).trans rfl;have hcz16_2:w13.cell? ⟨gb358,2,none⟩ = some (.int .i64 a1_2):=(blk_cell BK358.out 2).trans rfl;have hfz16_0:=blk_frozen BK358.out 0;have hfz16_1:=blk_frozen BK358.out 1;have hfz16_2:=blk_frozen BK358.out 2)|(go_at_call 17;(with_reducible refine (laws_lpTexts.calls k _ _ l0_0 _ _ l1_0 false _ ?side1 ?side2 ?side3 ?side4 A4.out).mono ?_);(case side1=>repeat (first|exact (Kd.C_below HR0_0.out HB.out)|(with_reducible refine Kd.C_alloc ?_ _)|(with_reducible refine Kd.C_drewN ?_ _)|(with_reducible refine Kd.C_drew ?_)));(case side2=>exact HC0_0.out);(case side3=>repeat (first|exact (Kd.C_below HR1_0.out HB.out)|(with_reducible refine Kd.C_alloc ?_ _)|(with_reducible refine Kd.C_drewN ?_ _)|(with_reducible refine Kd.C_drew ?_)));(case side4=>exact HC1_0.out);rintro e w' ⟨rfl,⟨nd,rfl⟩⟩))
   go_ret
   exact ⟨by first|rfl|(simp <;> rfl)|(simp [*] <;> rfl),by repeat (first|(with_reducible first|exact HB.out|apply below_alloc|apply pw_below_drewN|apply below_drew1|refine below_set ?_ GE357.out|refine below_set ?_ GE358.out)|exact HB.out)⟩
 ·rw [if_neg c3] at H
  have c3b0:(a0_2 == a1_2) = false:=beq_eq_false_iff_ne.mpr c3
  have c3b1:(a0_2 != a1_2) = true:=bne_iff_ne.mpr c3
  obtain rfl:=Option.some.inj H
  go_enter Try.func13,Try.ntmps13
  go_wp2_with (first|((with_reducible refine gate_dst (N:=2) rfl ?_);refine box_event ?hg (N:=2) ?hd (cs:=#[.slice A0_0 l0_0.length c0_0, .slice A0_1 l0_1.length c0_1, .int .i64 a0_2]) (t:=30) ?hr ?_;(case hd=>rfl);(case hg=>rfl);(case hr=>first|(go_simp;done)|(go_simp;rfl));intro gb357 hg w17 hbox hb;have n0_:=Aside0.mk (below_step (by repeat (first|(with_reducible first|exact HB.out|apply below_alloc|apply pw_below_drewN|apply below_drew1)|exact HB.out)) hb);have n1_:=Aside0.mk (hbox);have n2_:=Aside0.mk ((by rw [hg];exact (below_size (by repeat (first|(with_reducible first|exact HB.out|apply below_alloc|apply pw_below_drewN|apply below_drew1)|exact HB.out))):w.heap.size ≤ gb357));have n3_:=n2_;clear HB;have HB:=n0_;have BK357:=n1_;have GW357:=n2_;have GE357:=n3_;clear n0_ n1_ n2_ n3_;clear hb hbox hg)|((with_reducible refine gate_dst (N:=3) rfl ?_);refine box_event ?hg (N:=3) ?hd (cs:=#[.slice A1_0 l1_0.length c1_0, .slice A1_1 l1_1.length c1_1, .int .i64 a1_2]) (t:=30) ?hr ?_;(case hd=>rfl);(case hg=>rfl);(case hr=>first|(go_simp;done)|(go_simp;rfl));intro gb358 hg w18 hbox hb;have n0_:=Aside0.mk (blk_below (g:=gb357) (o:=.cells #[.slice A0_0 l0_0.length c0_0, .slice A0_1 l0_1.length c0_1, .int .i64 a0_2] 30 (0,0)) (by (with_reducible repeat (first|refine blk_drewN ?_ _|refine blk_drew ?_|refine blk_alloc ?_ _));exact BK357.out) hb);have n1_:=Aside0.mk (below_step (by repeat (first|(with_reducible first|exact HB.out|apply below_alloc|apply pw_below_drewN|apply below_drew1|refine below_set ?_ GE357.out)|exact HB.out)) hb);have n2_:=Aside0.mk (hbox);have n3_:=Aside0.mk ((by rw [hg];exact (below_size (by repeat (first|(with_reducible first|exact HB.out|apply below_alloc|apply pw_below_drewN|apply below_drew1|refine below_set ?_ GE357.out)|exact HB.out))):w.heap.size ≤ gb358));have n4_:=n3_;have n5_:=Aside0.mk ((by rw [hg];exact Nat.ne_of_lt (blk_lt (g:=gb357) (o:=.cells #[.slice A0_0 l0_0.length c0_0, .slice A0_1 l0_1.length c0_1, .int .i64 a0_2] 30 (0,0)) (by (with_reducible repeat (first|refine blk_drewN ?_ _|refine blk_drew ?_|refine blk_alloc ?_ _));exact BK357.out)):gb357 ≠ gb358));have n6_:=Aside0.mk ((by rw [hg];exact Nat.ne_of_gt (blk_lt (g:=gb357) (o:=.cells #[.slice A0_0 l0_0.length c0_0, .slice A0_1 l0_1.length c0_1, .int .i64 a0_2] 30 (0,0)) (by (with_reducible repeat (first|refine blk_drewN ?_ _|refine blk_drew ?_|refine blk_alloc ?_ _));exact BK357.out)):gb358 ≠ gb357));clear BK357;clear HB;have BK357:=n0_;have HB:=n1_;have BK358:=n2_;have GW358:=n3_;have GE358:=n4_;have NB357_358:=n5_;have NB358_357:=n6_;clear n0_ n1_ n2_ n3_ n4_ n5_ n6_;clear hb hbox hg;have hnb19:=NB357_358.out;have hnc19:=NB358_357.out;have hcz20_0:w18.cell? ⟨gb357,0,none⟩ = some (.slice A0_0 l0_0.length c0_0):=(blk_cell BK357.out 0).trans rfl;have hcz20_1:w18.cell? ⟨gb357,1,none⟩ = some (.slice A0_1 l0_1.length c0_1):=(blk_cell BK357.out 1).trans rfl;have hcz20_2:w18.cell? ⟨gb357,2,none⟩ = some (.int .i64 a0_2):=(blk_cell BK357.out 2).trans rfl;have hfz20_0:=blk_frozen BK357.out 0;have hfz20_1:=blk_frozen BK357.out 1;have hfz20_2:=blk_frozen BK357.out 2;have hcz21_0:w18.cell? ⟨gb358,0,none⟩ = some (.slice A1_0 l1_0.length c1_0):=(blk_cell BK358.out 0).trans rfl;have hcz21_1:w18.cell? ⟨gb358,1,none⟩ = some (.slice A1_1 l1_1.length c1_1):=(blk_cell BK358.out 1).trans rfl;have hcz21_2:w18.cell? ⟨gb358,2,none⟩ = some (.int .i64 a1_2):=(blk_cell BK358.out 2).trans rfl;have hfz21_0:=blk_frozen BK358.out 0;have hfz21_1:=blk_frozen BK358.out 1;have hfz21_2:=blk_frozen BK358.out 2))
  go_ret
  exact ⟨by first|rfl|(simp <;> rfl)|(simp [*] <;> rfl),by repeat (first|(with_reducible first|exact HB.out|apply below_alloc|apply pw_below_drewN|apply below_drew1|refine below_set ?_ GE357.out|refine below_set ?_ GE358.out)|exact HB.out)⟩

end Go.Proofs.Ytheakfegchndcaa.P
