-- Written by a program of this session (patch_print.py over the kit's print; given texts in wip/given).
-- Cut down by a program of this session (wip/tools/prune.py) to what its claim can name.
import Derived.Test.YtbnnamjaljohiaaDoorSq
import Derived.Test.YtbnnamjaljohiaaDoorPx0
import Derived.Test.YtbnnamjaljohiaaDoorPx1
import Derived.Test.YtbnnamjaljohiaaDoorPx3
import Derived.Test.YtbnnamjaljohiaaDoorPx5
import Derived.Test.YtbnnamjaljohiaaDoorPx6
namespace Go.Proofs.YtbnnamjaljohiaaDoor.P
open Go.RowKit Go.Proofs.YtbnnamjaljohiaaDoorW.PrintWords Go.Proofs.YtbnnamjaljohiaaDoorW.PrintLast Go.Proofs.YtbnnamjaljohiaaDoorW.PrintMore
attribute [local go_sem] max2_int min2_int max_two min_two max_three min_three max_four min_four   -- for this text's walks alone
set_option linter.unusedVariables false
set_option linter.unusedSimpArgs false
set_option maxHeartbeats 8000000
set_option maxRecDepth 100000

def spec_l71Part.f (k:Nat) (s0_0:List Int) (s0_1:Int):Option (ByteArray × Int):=(spec_l6Rd_of.f k s0_0 s0_1 (([(⟨#[97]⟩:ByteArray),(⟨#[98]⟩:ByteArray),(⟨#[99]⟩:ByteArray),(⟨#[120,46,121]⟩:ByteArray),(⟨#[46,46]⟩:ByteArray),(⟨#[46]⟩:ByteArray),(⟨#[]⟩:ByteArray),(⟨#[37,54,49]⟩:ByteArray),(⟨#[100,45,49]⟩:ByteArray),(⟨#[37,51,70]⟩:ByteArray),(⟨#[98]⟩:ByteArray)]:List ByteArray))).bind fun bt205=>(some (bt205.1,bt205.2))
theorem spec_l71Part.mono:∀ a0 a1 k,LeO (spec_l71Part.f k a0 a1) (spec_l71Part.f (k + 1) a0 a1):=by
 intro a0 a1 k
 unfold spec_l71Part.f
 repeat' first
   | (with_reducible apply spec_l6Rd_of.mono)
   | (with_reducible exact LeO.refl _)
   | (with_reducible exact LeO.none _)
   | (with_reducible refine LeO.ite ?_ ?_)
   | (with_reducible refine LeO.bind ?_ (fun _=>?_))
   | exact spec_l6Rd_of.mono _ _ _ _
   | exact LeO.none _
   | refine LeO.ite ?_ ?_
   | refine LeO.bind ?_ (fun _=>?_)
theorem spec_l71Part.calls (k:Nat) (g:Nat) (s0_0:List Int) (s0_1:Int) (r1:ByteArray) (r2:Int) (w0 w:World) (hI:IsS60 w0 w g s0_0 s0_1) (hB:Below w0.heap.size w0 w) (h:spec_l71Part.f k s0_0 s0_1 = some (r1,r2)) :
  Calls Tryd.prog 54 #[.pointer (some ⟨g,0,none⟩)] w fun e w'=>e = .returned (.string r1) ∧ IsS60 w0 w' g s0_0 r2 ∧ Below w0.heap.size w0 w' ∧ KeepBut w w' g none:=by
 have HI0:=Am hI
 have HK:=Am (KeepBut.refl w g none)
 have HL:=Am hB.size
 clear hI
 have HW0:=Am hB.size
 have HB:=Am hB
 clear hB
 have H:((spec_l6Rd_of.f k s0_0 s0_1 (([(⟨#[97]⟩:ByteArray),(⟨#[98]⟩:ByteArray),(⟨#[99]⟩:ByteArray),(⟨#[120,46,121]⟩:ByteArray),(⟨#[46,46]⟩:ByteArray),(⟨#[46]⟩:ByteArray),(⟨#[]⟩:ByteArray),(⟨#[37,54,49]⟩:ByteArray),(⟨#[100,45,49]⟩:ByteArray),(⟨#[37,51,70]⟩:ByteArray),(⟨#[98]⟩:ByteArray)]:List ByteArray))).bind fun bt205=>(some (bt205.1,bt205.2))) = some (r1,r2):=h
 clear h
 obtain ⟨y202,hy202⟩:∃ y_:List ByteArray,y_ = (([(⟨#[97]⟩:ByteArray),(⟨#[98]⟩:ByteArray),(⟨#[99]⟩:ByteArray),(⟨#[120,46,121]⟩:ByteArray),(⟨#[46,46]⟩:ByteArray),(⟨#[46]⟩:ByteArray),(⟨#[]⟩:ByteArray),(⟨#[37,54,49]⟩:ByteArray),(⟨#[100,45,49]⟩:ByteArray),(⟨#[37,51,70]⟩:ByteArray),(⟨#[98]⟩:ByteArray)]:List ByteArray)):=⟨_,rfl⟩
 replace H:((spec_l6Rd_of.f k s0_0 s0_1 y202).bind fun bt205=>(some (bt205.1,bt205.2))) = some (r1,r2):=by first|(rw [hy202];with_reducible exact H)|(have H2_:=(Option.bind_some _ _).symm.trans H;rw [hy202];with_reducible exact H2_)|(have H2_:=(Option.bind_some _ _).symm.trans H;with_reducible exact H2_)|with_reducible exact H|(rw [hy202];exact H)|exact H
 have Ny202:=Am hy202
 clear hy202
 replace H:=bI H
 obtain ⟨⟨t205,t206⟩,A20,H⟩:=H
 replace H:(some (t205,t206)) = some (r1,r2):=H
 have A2:=Am A20
 clear A20
 simp only [Option.some.injEq,Prod.mk.injEq] at H
 obtain ⟨rfl,rfl⟩:=H
 go_enter Tryd.func54,Tryd.ntmps54
 go_wp2_with (first|((with_reducible refine gate_dst (N:=4) rfl ?_);refine Kd.R_lit Kd.string _ 9 ?hg (N:=4) ?hd (xs:=([(⟨#[97]⟩:ByteArray),(⟨#[98]⟩:ByteArray),(⟨#[99]⟩:ByteArray),(⟨#[120,46,121]⟩:ByteArray),(⟨#[46,46]⟩:ByteArray),(⟨#[46]⟩:ByteArray),(⟨#[]⟩:ByteArray),(⟨#[37,54,49]⟩:ByteArray),(⟨#[100,45,49]⟩:ByteArray),(⟨#[37,51,70]⟩:ByteArray),(⟨#[98]⟩:ByteArray)]:List ByteArray)) (inner:=[.string (⟨#[97]⟩:ByteArray), .string (⟨#[98]⟩:ByteArray), .string (⟨#[99]⟩:ByteArray), .string (⟨#[120,46,121]⟩:ByteArray), .string (⟨#[46,46]⟩:ByteArray), .string (⟨#[46]⟩:ByteArray), .string (⟨#[]⟩:ByteArray), .string (⟨#[37,54,49]⟩:ByteArray), .string (⟨#[100,45,49]⟩:ByteArray), .string (⟨#[37,51,70]⟩:ByteArray), .string (⟨#[98]⟩:ByteArray)]) (ok:=fun _=>True) (okp:=fun _=>True) ?hr ?hp (fun _ hk=>hk) trivial (Below.refl _ _) (Nat.le_refl _) (by simp) ?_;(case hd=>rfl);(case hg=>rfl);(case hr=>first|(go_simp;done)|(go_simp;rfl));(case hp=>exact (Reps.one (show Kd.M Kd.string _ _ _ (⟨#[97]⟩:ByteArray) [.string (⟨#[97]⟩:ByteArray)] from rfl) (Reps.one (show Kd.M Kd.string _ _ _ (⟨#[98]⟩:ByteArray) [.string (⟨#[98]⟩:ByteArray)] from rfl) (Reps.one (show Kd.M Kd.string _ _ _ (⟨#[99]⟩:ByteArray) [.string (⟨#[99]⟩:ByteArray)] from rfl) (Reps.one (show Kd.M Kd.string _ _ _ (⟨#[120,46,121]⟩:ByteArray) [.string (⟨#[120,46,121]⟩:ByteArray)] from rfl) (Reps.one (show Kd.M Kd.string _ _ _ (⟨#[46,46]⟩:ByteArray) [.string (⟨#[46,46]⟩:ByteArray)] from rfl) (Reps.one (show Kd.M Kd.string _ _ _ (⟨#[46]⟩:ByteArray) [.string (⟨#[46]⟩:ByteArray)] from rfl) (Reps.one (show Kd.M Kd.string _ _ _ (⟨#[]⟩:ByteArray) [.string (⟨#[]⟩:ByteArray)] from rfl) (Reps.one (show Kd.M Kd.string _ _ _ (⟨#[37,54,49]⟩:ByteArray) [.string (⟨#[37,54,49]⟩:ByteArray)] from rfl) (Reps.one (show Kd.M Kd.string _ _ _ (⟨#[100,45,49]⟩:ByteArray) [.string (⟨#[100,45,49]⟩:ByteArray)] from rfl) (Reps.one (show Kd.M Kd.string _ _ _ (⟨#[37,51,70]⟩:ByteArray) [.string (⟨#[37,51,70]⟩:ByteArray)] from rfl) (Reps.one (show Kd.M Kd.string _ _ _ (⟨#[98]⟩:ByteArray) [.string (⟨#[98]⟩:ByteArray)] from rfl) (Reps.none _ _)))))))))))));intro v203 w3 ho4 hb hg_ hnew_;clear hg_ hnew_;(first|rw [← Ny202.out] at ho4|(simp only [Int.reduceToNat] at ho4;rw [← Ny202.out] at ho4));have n0_:=Am (Kd.R_lower ho4 (keep_size (w:=w) (g:=g) (row:=none) (by repeat (first|(with_reducible first|exact HK.out|apply KeepBut.set_|apply kN|apply kD|apply kA)|exact HK.out))));have n1_:=Am (IsS60.below (by repeat (first|(with_reducible first|exact HI0.out|apply IsS60.alloc|apply IsS60.drewN|apply IsS60.drew|apply IsS60.set_1)|exact HI0.out)) hb);have n2_:=Am (KeepBut.trans (by repeat (first|(with_reducible first|exact HK.out|apply KeepBut.set_|apply kN|apply kD|apply kA)|exact HK.out)) (KeepBut.of_below hb g none) (.inl rfl));have n3_:=Am (bT (by repeat (first|(with_reducible first|exact HB.out|apply bA|apply bN|apply bD|refine bS ?_ (IsS60.ge HI0.out))|exact HB.out)) hb);clear HI0 HK HB;have HO204:=n0_;have HI0:=n1_;have HK:=n2_;have HB:=n3_;clear n0_ n1_ n2_ n3_ hb ho4;obtain ⟨Ao5,co5,eo5⟩:=Kd.R_slice HO204.out;subst eo5)|((with_reducible refine gate_callee (f:=53) rfl ?_);refine goesL_ (some 5) rfl rfl Tryd.func53 (by kernel_rfl) rfl #[.pointer (some ⟨g,0,none⟩), .slice Ao5 y202.length co5] rfl (aE2 rfl rfl) ?_;(with_reducible refine (spec_l6Rd_of.calls k g s0_0 s0_1 _ _ y202 t205 t206 w0 _ ?side1 ?side2 ?side3 ?side4 ?side5 A2.out).mono ?_);(case side1=>repeat (first|(with_reducible first|exact HI0.out|apply IsS60.alloc|apply IsS60.drewN|apply IsS60.drew|apply IsS60.set_1)|exact HI0.out));(case side2=>repeat (first|(with_reducible first|exact HB.out|apply bA|apply bN|apply bD|refine bS ?_ (IsS60.ge HI0.out))|exact HB.out));(case side3=>repeat (first|exact (Kd.R_reads' HO204.out).2.2|(with_reducible refine bC ?_)));(case side4=>exact (Kd.R_reads' HO204.out).2.1);(case side5=>exact far_slice (IsS60.own_ne HI0.out HO204.out (by decide)));rintro e w6 ⟨rfl,hi,hb,hk⟩;refine ⟨_,rfl,?_⟩;have n0_:=Am (Kd.R_mono (Kd.R_keep (IsS60.apart (show IsS60 w0 _ g s0_0 s0_1 from by repeat (first|(with_reducible first|exact HI0.out|apply IsS60.alloc|apply IsS60.drewN|apply IsS60.drew|apply IsS60.set_1)|exact HI0.out)) (bR HO204.out) (by decide)) hk (fun _ h=>h.2)) (fun _ h=>h.1));have n1_:=Am (KeepBut.trans (by repeat (first|(with_reducible first|exact HK.out|apply KeepBut.set_|apply kN|apply kD|apply kA)|exact HK.out)) hk (.inl rfl));have n2_:=Am (hb);have n3_:=Am (hi);clear HO204 HK HB HI0;have HO204:=n0_;have HK:=n1_;have HB:=n2_;have HI0:=n3_;clear n0_ n1_ n2_ n3_;(try clear hb hk hi)))
 go_ret
 exact ⟨by first|rfl|(simp <;> rfl)|(simp [*] <;> rfl),by repeat (first|(with_reducible first|exact HI0.out|apply IsS60.alloc|apply IsS60.drewN|apply IsS60.drew|apply IsS60.set_1)|exact HI0.out),by repeat (first|(with_reducible first|exact HB.out|apply bA|apply bN|apply bD|refine bS ?_ (IsS60.ge HI0.out))|exact HB.out),by repeat (first|(with_reducible first|exact HK.out|apply KeepBut.set_|apply kN|apply kD|apply kA)|exact HK.out)⟩

def spec_DrawAddrRead.l0:Nat → ByteArray → Int → List Int → Int → Option (ByteArray)
 | 0,_,_,_,_=>none
 | k + 1,x4,x5,x210000,x210001=>if x5 > 0 then (if x4.size + 1 ≤ 9223372036854775807 then ((spec_l71Part.f k x210000 x210001).bind fun bt221=>(if (x4 ++ (⟨#[47]⟩:ByteArray)).size + bt221.1.size ≤ 9223372036854775807 then (spec_DrawAddrRead.l0 k ((x4 ++ (⟨#[47]⟩:ByteArray)) ++ bt221.1) (wrap64 (x5 - 1)) x210000 bt221.2) else (none))) else (none)) else ((spec_l6Rd_of.f k x210000 x210001 (([(⟨#[]⟩:ByteArray),(⟨#[]⟩:ByteArray),(⟨#[47]⟩:ByteArray),(⟨#[63,97]⟩:ByteArray),(⟨#[63,37,54,49,61,98]⟩:ByteArray),(⟨#[35,120]⟩:ByteArray),(⟨#[63,97,63,98]⟩:ByteArray),(⟨#[63,97,35,98]⟩:ByteArray)]:List ByteArray))).bind fun bt226=>(if x4.size + bt226.1.size ≤ 9223372036854775807 then (some (x4 ++ bt226.1)) else (none)))
def spec_DrawAddrRead.f (k:Nat) (l0:List Int):Option (ByteArray):=(spec_l6Open.f l0).bind fun bt207=>((spec_l6Rd_pick.f k bt207.1 bt207.2 3).bind fun bt210=>(if bt210.1 = 0 then ((spec_l71Ref.f k bt207.1 bt210.2).bind fun bt212=>(some bt212.1)) else ((spec_l6Rd_of.f k bt207.1 bt210.2 (([(⟨#[97,98]⟩:ByteArray),(⟨#[67,68]⟩:ByteArray),(⟨#[101]⟩:ByteArray),(⟨#[102,111,120]⟩:ByteArray),(⟨#[97,49]⟩:ByteArray),(⟨#[]⟩:ByteArray)]:List ByteArray))).bind fun bt217=>(if 2 + bt217.1.size ≤ 9223372036854775807 then ((spec_l6Rd_pick.f k bt207.1 bt217.2 5).bind fun bt219=>(spec_DrawAddrRead.l0 k ((⟨#[47,47]⟩:ByteArray) ++ bt217.1) bt219.1 bt207.1 bt219.2)) else (none)))))
theorem spec_DrawAddrRead.mono_l:∀ k,(∀ y0 y1 y2 y3,LeO (spec_DrawAddrRead.l0 k y0 y1 y2 y3) (spec_DrawAddrRead.l0 (k + 1) y0 y1 y2 y3))
 | 0=>fun _ _ _ _ r h=>by simp [spec_DrawAddrRead.l0] at h
 | k + 1=>by
  have ih0:=spec_DrawAddrRead.mono_l k
  ·intro y0 y1 y2 y3
   unfold spec_DrawAddrRead.l0
   repeat' first
   | (with_reducible apply ih0)
   | (with_reducible apply spec_l6Rd_of.mono)
   | (with_reducible apply spec_l6Rd_pick.mono)
   | (with_reducible apply spec_l71Part.mono)
   | (with_reducible apply spec_l71Ref.mono)
   | (with_reducible exact LeO.refl _)
   | (with_reducible exact LeO.none _)
   | (with_reducible refine LeO.ite ?_ ?_)
   | (with_reducible refine LeO.bind ?_ (fun _=>?_))
   | exact ih0 _ _ _ _
   | exact spec_l6Rd_of.mono _ _ _ _
   | exact spec_l6Rd_pick.mono _ _ _ _
   | exact spec_l71Part.mono _ _ _
   | exact spec_l71Ref.mono _ _ _
   | exact LeO.none _
   | refine LeO.ite ?_ ?_
   | refine LeO.bind ?_ (fun _=>?_)
theorem spec_DrawAddrRead.mono:∀ a0 k,LeO (spec_DrawAddrRead.f k a0) (spec_DrawAddrRead.f (k + 1) a0):=by
 intro a0 k
 have ih0:=spec_DrawAddrRead.mono_l k
 unfold spec_DrawAddrRead.f
 repeat' first
   | (with_reducible apply ih0)
   | (with_reducible apply spec_l6Rd_of.mono)
   | (with_reducible apply spec_l6Rd_pick.mono)
   | (with_reducible apply spec_l71Part.mono)
   | (with_reducible apply spec_l71Ref.mono)
   | (with_reducible exact LeO.refl _)
   | (with_reducible exact LeO.none _)
   | (with_reducible refine LeO.ite ?_ ?_)
   | (with_reducible refine LeO.bind ?_ (fun _=>?_))
   | exact ih0 _ _ _ _
   | exact spec_l6Rd_of.mono _ _ _ _
   | exact spec_l6Rd_pick.mono _ _ _ _
   | exact spec_l71Part.mono _ _ _
   | exact spec_l71Ref.mono _ _ _
   | exact LeO.none _
   | refine LeO.ite ?_ ?_
   | refine LeO.bind ?_ (fun _=>?_)
theorem spec_DrawAddrRead.calls (k:Nat) (A0:Option Addr) (c0:Nat) (l0:List Int) (r:ByteArray) (w:World) (hr0:Kd.C (Kd.int .u8) w A0 l0.length l0) (hc0:l0.length ≤ c0) (h:spec_DrawAddrRead.f k l0 = some r) :
  Calls Tryd.prog 24 #[.slice A0 l0.length c0] w fun e w'=>e = .returned (.string r) ∧ Below w.heap.size w w':=by
 have HR0:=Am hr0
 have HC0:=Am hc0
 clear hr0 hc0
 have HB:=Am (Below.refl w.heap.size w)
 have H:((spec_l6Open.f l0).bind fun bt207=>((spec_l6Rd_pick.f k bt207.1 bt207.2 3).bind fun bt210=>(if bt210.1 = 0 then ((spec_l71Ref.f k bt207.1 bt210.2).bind fun bt212=>(some bt212.1)) else ((spec_l6Rd_of.f k bt207.1 bt210.2 (([(⟨#[97,98]⟩:ByteArray),(⟨#[67,68]⟩:ByteArray),(⟨#[101]⟩:ByteArray),(⟨#[102,111,120]⟩:ByteArray),(⟨#[97,49]⟩:ByteArray),(⟨#[]⟩:ByteArray)]:List ByteArray))).bind fun bt217=>(if 2 + bt217.1.size ≤ 9223372036854775807 then ((spec_l6Rd_pick.f k bt207.1 bt217.2 5).bind fun bt219=>(spec_DrawAddrRead.l0 k ((⟨#[47,47]⟩:ByteArray) ++ bt217.1) bt219.1 bt207.1 bt219.2)) else (none)))))) = some r:=h
 clear h
 replace H:=bI H
 obtain ⟨⟨t207,t208⟩,A20,H⟩:=H
 replace H:((spec_l6Rd_pick.f k t207 t208 3).bind fun bt210=>(if bt210.1 = 0 then ((spec_l71Ref.f k t207 bt210.2).bind fun bt212=>(some bt212.1)) else ((spec_l6Rd_of.f k t207 bt210.2 (([(⟨#[97,98]⟩:ByteArray),(⟨#[67,68]⟩:ByteArray),(⟨#[101]⟩:ByteArray),(⟨#[102,111,120]⟩:ByteArray),(⟨#[97,49]⟩:ByteArray),(⟨#[]⟩:ByteArray)]:List ByteArray))).bind fun bt217=>(if 2 + bt217.1.size ≤ 9223372036854775807 then ((spec_l6Rd_pick.f k t207 bt217.2 5).bind fun bt219=>(spec_DrawAddrRead.l0 k ((⟨#[47,47]⟩:ByteArray) ++ bt217.1) bt219.1 t207 bt219.2)) else (none))))) = some r:=H
 have A2:=Am A20
 clear A20
 replace H:=bI H
 obtain ⟨⟨t210,t211⟩,A30,H⟩:=H
 replace H:(if t210 = 0 then ((spec_l71Ref.f k t207 t211).bind fun bt212=>(some bt212.1)) else ((spec_l6Rd_of.f k t207 t211 (([(⟨#[97,98]⟩:ByteArray),(⟨#[67,68]⟩:ByteArray),(⟨#[101]⟩:ByteArray),(⟨#[102,111,120]⟩:ByteArray),(⟨#[97,49]⟩:ByteArray),(⟨#[]⟩:ByteArray)]:List ByteArray))).bind fun bt217=>(if 2 + bt217.1.size ≤ 9223372036854775807 then ((spec_l6Rd_pick.f k t207 bt217.2 5).bind fun bt219=>(spec_DrawAddrRead.l0 k ((⟨#[47,47]⟩:ByteArray) ++ bt217.1) bt219.1 t207 bt219.2)) else (none)))) = some r:=H
 have A3:=Am A30
 clear A30
 by_cases c4:t210 = 0
 ·rw [if_pos c4] at H
  have c4b0:(t210 == 0) = true:=beq_iff_eq.mpr c4
  have c4b1:(t210 != 0) = false:=bne_eq_false_iff_eq.mpr c4
  clear c4
  replace H:=bI H
  obtain ⟨⟨t212,t213⟩,A50,H⟩:=H
  replace H:(some t212) = some r:=H
  have A5:=Am A50
  clear A50
  obtain rfl:=Option.some.inj H
  go_enter Tryd.func24,Tryd.ntmps24
  go_wp2_with (first|((with_reducible refine gate_callee (f:=29) rfl ?_);refine goesL_ (some 7) rfl rfl Tryd.func29 (by kernel_rfl) rfl #[.slice A0 l0.length c0] rfl (aE1 rfl) ?_;(with_reducible refine (spec_l6Open.calls _ _ l0 t207 t208 w _ ?side1 ?side2 ?side3 A2.out).mono ?_);(case side1=>repeat (first|(with_reducible first|exact HB.out|apply bA|apply bN|apply bD)|exact HB.out));(case side2=>exact HR0.out);(case side3=>exact HC0.out);rintro e w6 ⟨g209,rfl,hi,hb,hb2⟩;refine ⟨_,rfl,?_⟩;have n0_:=Am (hb);have n1_:=Am (hi);clear HB;have HB:=n0_;have HI209:=n1_;clear n0_ n1_;(try clear hb hb2 hi))|((with_reducible refine gate_callee (f:=52) rfl ?_);refine goesL_ (some 9) rfl rfl Tryd.func52 (by kernel_rfl) rfl #[.pointer (some ⟨g209,0,none⟩), .int .i64 3] rfl (aE2 rfl rfl) ?_;(with_reducible refine (spec_l6Rd_pick.calls k g209 t207 t208 3 t210 t211 w _ ?side1 ?side2 A3.out).mono ?_);(case side1=>repeat (first|(with_reducible first|exact HI209.out|apply IsS60.alloc|apply IsS60.drewN|apply IsS60.drew|apply IsS60.set_1)|exact HI209.out));(case side2=>repeat (first|(with_reducible first|exact HB.out|apply bA|apply bN|apply bD|refine bS ?_ (IsS60.ge HI209.out))|exact HB.out));rintro e w7 ⟨rfl,hi,hb,hk⟩;refine ⟨_,rfl,?_⟩;have n0_:=Am (hb);have n1_:=Am (hi);clear HB HI209;have HB:=n0_;have HI209:=n1_;clear n0_ n1_;(try clear hb hk hi))|((with_reducible refine gate_callee (f:=31) rfl ?_);refine goesL_ (some 12) rfl rfl Tryd.func31 (by kernel_rfl) rfl #[.pointer (some ⟨g209,0,none⟩)] rfl (aE1 rfl) ?_;(with_reducible refine (spec_l71Ref.calls k g209 t207 t211 t212 t213 w _ ?side1 ?side2 A5.out).mono ?_);(case side1=>repeat (first|(with_reducible first|exact HI209.out|apply IsS60.alloc|apply IsS60.drewN|apply IsS60.drew|apply IsS60.set_1)|exact HI209.out));(case side2=>repeat (first|(with_reducible first|exact HB.out|apply bA|apply bN|apply bD|refine bS ?_ (IsS60.ge HI209.out))|exact HB.out));rintro e w8 ⟨rfl,hi,hb,hk⟩;refine ⟨_,rfl,?_⟩;have n0_:=Am (hb);have n1_:=Am (hi);clear HB HI209;have HB:=n0_;have HI209:=n1_;clear n0_ n1_;(try clear hb hk hi)))
  go_ret
  exact ⟨by first|rfl|(simp <;> rfl)|(simp [*] <;> rfl),by repeat (first|(with_reducible first|exact HB.out|apply bA|apply bN|apply bD|refine bS ?_ (IsS60.ge HI209.out))|exact HB.out)⟩
 ·rw [if_neg c4] at H
  have c4b0:(t210 == 0) = false:=beq_eq_false_iff_ne.mpr c4
  have c4b1:(t210 != 0) = true:=bne_iff_ne.mpr c4
  obtain ⟨y214,hy214⟩:∃ y_:List ByteArray,y_ = (([(⟨#[97,98]⟩:ByteArray),(⟨#[67,68]⟩:ByteArray),(⟨#[101]⟩:ByteArray),(⟨#[102,111,120]⟩:ByteArray),(⟨#[97,49]⟩:ByteArray),(⟨#[]⟩:ByteArray)]:List ByteArray)):=⟨_,rfl⟩
  replace H:((spec_l6Rd_of.f k t207 t211 y214).bind fun bt217=>(if 2 + bt217.1.size ≤ 9223372036854775807 then ((spec_l6Rd_pick.f k t207 bt217.2 5).bind fun bt219=>(spec_DrawAddrRead.l0 k ((⟨#[47,47]⟩:ByteArray) ++ bt217.1) bt219.1 t207 bt219.2)) else (none))) = some r:=by first|(rw [hy214];with_reducible exact H)|(have H2_:=(Option.bind_some _ _).symm.trans H;rw [hy214];with_reducible exact H2_)|(have H2_:=(Option.bind_some _ _).symm.trans H;with_reducible exact H2_)|with_reducible exact H|(rw [hy214];exact H)|exact H
  have Ny214:=Am hy214
  clear hy214
  replace H:=bI H
  obtain ⟨⟨t217,t218⟩,A90,H⟩:=H
  replace H:(if 2 + t217.size ≤ 9223372036854775807 then ((spec_l6Rd_pick.f k t207 t218 5).bind fun bt219=>(spec_DrawAddrRead.l0 k ((⟨#[47,47]⟩:ByteArray) ++ t217) bt219.1 t207 bt219.2)) else (none)) = some r:=H
  have A9:=Am A90
  clear A90
  by_cases c10:2 + t217.size ≤ 9223372036854775807
  ·rw [if_pos c10] at H
   have c10b0:=eq_true c10
   have c10b1:=decide_eq_true c10
   try have c10b2:(9223372036854775807 < 2 + t217.size) = False:=eq_false (Nat.not_lt.2 c10)
   replace H:=bI H
   obtain ⟨⟨t219,t220⟩,A110,H⟩:=H
   replace H:(spec_DrawAddrRead.l0 k ((⟨#[47,47]⟩:ByteArray) ++ t217) t219 t207 t220) = some r:=H
   have A11:=Am A110
   clear A110
   have H':=Am H
   clear H
   go_enter Tryd.func24,Tryd.ntmps24
   go_wp2_with (first|((with_reducible refine gate_callee (f:=29) rfl ?_);refine goesL_ (some 7) rfl rfl Tryd.func29 (by kernel_rfl) rfl #[.slice A0 l0.length c0] rfl (aE1 rfl) ?_;(with_reducible refine (spec_l6Open.calls _ _ l0 t207 t208 w _ ?side1 ?side2 ?side3 A2.out).mono ?_);(case side1=>repeat (first|(with_reducible first|exact HB.out|apply bA|apply bN|apply bD)|exact HB.out));(case side2=>exact HR0.out);(case side3=>exact HC0.out);rintro e w12 ⟨g209,rfl,hi,hb,hb2⟩;refine ⟨_,rfl,?_⟩;have n0_:=Am (hb);have n1_:=Am (hi);clear HB;have HB:=n0_;have HI209:=n1_;clear n0_ n1_;(try clear hb hb2 hi))|((with_reducible refine gate_callee (f:=52) rfl ?_);refine goesL_ (some 9) rfl rfl Tryd.func52 (by kernel_rfl) rfl #[.pointer (some ⟨g209,0,none⟩), .int .i64 3] rfl (aE2 rfl rfl) ?_;(with_reducible refine (spec_l6Rd_pick.calls k g209 t207 t208 3 t210 t211 w _ ?side1 ?side2 A3.out).mono ?_);(case side1=>repeat (first|(with_reducible first|exact HI209.out|apply IsS60.alloc|apply IsS60.drewN|apply IsS60.drew|apply IsS60.set_1)|exact HI209.out));(case side2=>repeat (first|(with_reducible first|exact HB.out|apply bA|apply bN|apply bD|refine bS ?_ (IsS60.ge HI209.out))|exact HB.out));rintro e w13 ⟨rfl,hi,hb,hk⟩;refine ⟨_,rfl,?_⟩;have n0_:=Am (hb);have n1_:=Am (hi);clear HB HI209;have HB:=n0_;have HI209:=n1_;clear n0_ n1_;(try clear hb hk hi))|((with_reducible refine gate_dst (N:=14) rfl ?_);refine Kd.R_lit Kd.string _ 9 ?hg (N:=14) ?hd (xs:=([(⟨#[97,98]⟩:ByteArray),(⟨#[67,68]⟩:ByteArray),(⟨#[101]⟩:ByteArray),(⟨#[102,111,120]⟩:ByteArray),(⟨#[97,49]⟩:ByteArray),(⟨#[]⟩:ByteArray)]:List ByteArray)) (inner:=[.string (⟨#[97,98]⟩:ByteArray), .string (⟨#[67,68]⟩:ByteArray), .string (⟨#[101]⟩:ByteArray), .string (⟨#[102,111,120]⟩:ByteArray), .string (⟨#[97,49]⟩:ByteArray), .string (⟨#[]⟩:ByteArray)]) (ok:=fun _=>True) (okp:=fun _=>True) ?hr ?hp (fun _ hk=>hk) trivial (Below.refl _ _) (Nat.le_refl _) (by simp) ?_;(case hd=>rfl);(case hg=>rfl);(case hr=>first|(go_simp;done)|(go_simp;rfl));(case hp=>exact (Reps.one (show Kd.M Kd.string _ _ _ (⟨#[97,98]⟩:ByteArray) [.string (⟨#[97,98]⟩:ByteArray)] from rfl) (Reps.one (show Kd.M Kd.string _ _ _ (⟨#[67,68]⟩:ByteArray) [.string (⟨#[67,68]⟩:ByteArray)] from rfl) (Reps.one (show Kd.M Kd.string _ _ _ (⟨#[101]⟩:ByteArray) [.string (⟨#[101]⟩:ByteArray)] from rfl) (Reps.one (show Kd.M Kd.string _ _ _ (⟨#[102,111,120]⟩:ByteArray) [.string (⟨#[102,111,120]⟩:ByteArray)] from rfl) (Reps.one (show Kd.M Kd.string _ _ _ (⟨#[97,49]⟩:ByteArray) [.string (⟨#[97,49]⟩:ByteArray)] from rfl) (Reps.one (show Kd.M Kd.string _ _ _ (⟨#[]⟩:ByteArray) [.string (⟨#[]⟩:ByteArray)] from rfl) (Reps.none _ _))))))));intro v215 w14 ho15 hb hg_ hnew_;clear hg_ hnew_;(first|rw [← Ny214.out] at ho15|(simp only [Int.reduceToNat] at ho15;rw [← Ny214.out] at ho15));have n0_:=Am (Kd.R_lower ho15 (bU (by repeat (first|(with_reducible first|exact HB.out|apply bA|apply bN|apply bD|refine bS ?_ (IsS60.ge HI209.out))|exact HB.out))));have n1_:=Am (IsS60.below (by repeat (first|(with_reducible first|exact HI209.out|apply IsS60.alloc|apply IsS60.drewN|apply IsS60.drew|apply IsS60.set_1)|exact HI209.out)) hb);have n2_:=Am (bT (by repeat (first|(with_reducible first|exact HB.out|apply bA|apply bN|apply bD|refine bS ?_ (IsS60.ge HI209.out))|exact HB.out)) hb);clear HI209 HB;have HO216:=n0_;have HI209:=n1_;have HB:=n2_;clear n0_ n1_ n2_ hb ho15;obtain ⟨Ao16,co16,eo16⟩:=Kd.R_slice HO216.out;subst eo16)|((with_reducible refine gate_callee (f:=53) rfl ?_);refine goesL_ (some 15) rfl rfl Tryd.func53 (by kernel_rfl) rfl #[.pointer (some ⟨g209,0,none⟩), .slice Ao16 y214.length co16] rfl (aE2 rfl rfl) ?_;(with_reducible refine (spec_l6Rd_of.calls k g209 t207 t211 _ _ y214 t217 t218 w _ ?side1 ?side2 ?side3 ?side4 ?side5 A9.out).mono ?_);(case side1=>repeat (first|(with_reducible first|exact HI209.out|apply IsS60.alloc|apply IsS60.drewN|apply IsS60.drew|apply IsS60.set_1)|exact HI209.out));(case side2=>repeat (first|(with_reducible first|exact HB.out|apply bA|apply bN|apply bD|refine bS ?_ (IsS60.ge HI209.out))|exact HB.out));(case side3=>repeat (first|exact (Kd.R_reads' HO216.out).2.2|(with_reducible refine bC ?_)));(case side4=>exact (Kd.R_reads' HO216.out).2.1);(case side5=>exact far_slice (IsS60.own_ne HI209.out HO216.out (by decide)));rintro e w17 ⟨rfl,hi,hb,hk⟩;refine ⟨_,rfl,?_⟩;have n0_:=Am (Kd.R_mono (Kd.R_keep (IsS60.apart (show IsS60 w _ g209 t207 t211 from by repeat (first|(with_reducible first|exact HI209.out|apply IsS60.alloc|apply IsS60.drewN|apply IsS60.drew|apply IsS60.set_1)|exact HI209.out)) (bR HO216.out) (by decide)) hk (fun _ h=>h.2)) (fun _ h=>h.1));have n1_:=Am (hb);have n2_:=Am (hi);clear HO216 HB HI209;have HO216:=n0_;have HB:=n1_;have HI209:=n2_;clear n0_ n1_ n2_;(try clear hb hk hi))|((with_reducible refine gate_callee (f:=52) rfl ?_);refine goesL_ (some 18) rfl rfl Tryd.func52 (by kernel_rfl) rfl #[.pointer (some ⟨g209,0,none⟩), .int .i64 5] rfl (aE2 rfl rfl) ?_;(with_reducible refine (spec_l6Rd_pick.calls k g209 t207 t218 5 t219 t220 w _ ?side1 ?side2 A11.out).mono ?_);(case side1=>repeat (first|(with_reducible first|exact HI209.out|apply IsS60.alloc|apply IsS60.drewN|apply IsS60.drew|apply IsS60.set_1)|exact HI209.out));(case side2=>repeat (first|(with_reducible first|exact HB.out|apply bA|apply bN|apply bD|refine bS ?_ (IsS60.ge HI209.out))|exact HB.out));rintro e w18 ⟨rfl,hi,hb,hk⟩;refine ⟨_,rfl,?_⟩;have n0_:=Am (Kd.R_mono (Kd.R_keep (IsS60.apart (show IsS60 w _ g209 t207 t218 from by repeat (first|(with_reducible first|exact HI209.out|apply IsS60.alloc|apply IsS60.drewN|apply IsS60.drew|apply IsS60.set_1)|exact HI209.out)) (bR HO216.out) (by decide)) hk (fun _ h=>h.2)) (fun _ h=>h.1));have n1_:=Am (hb);have n2_:=Am (hi);clear HO216 HB HI209;have HO216:=n0_;have HB:=n1_;have HI209:=n2_;clear n0_ n1_ n2_;(try clear hb hk hi)))
   go_loopg [4,5] k (fun kq v4 v5 w'=>∃ (x4_1:ByteArray) (x5_1:Int) (x210001_1:Int),v4 = .string x4_1 ∧ v5 = .int .i64 x5_1 ∧ Aside0 (spec_DrawAddrRead.l0 kq x4_1 x5_1 t207 x210001_1 = some r) ∧ Aside0 (kq ≤ k) ∧ Aside0 (IsS60 w w' g209 t207 x210001_1) ∧ Aside0 (Below w.heap.size w w'))
   case atStart=>exact ⟨((⟨#[47,47]⟩:ByteArray) ++ t217),(t219),(t220),(by first|rfl|(simp;done)|(simp only [i64_w,i32_w];done)|(simp only [i64_w,i32_w];rfl)|(simp [*];done)|(simp [emp_bne,emp_beq];done)),(by first|rfl|(simp;done)|(simp only [i64_w,i32_w];done)|(simp only [i64_w,i32_w];rfl)|(simp [*];done)|(simp [emp_bne,emp_beq];done)),H',⟨Nat.le_refl _⟩,⟨by repeat (first|(with_reducible first|exact HI209.out|apply IsS60.alloc|apply IsS60.drewN|apply IsS60.drew|apply IsS60.set_1)|exact HI209.out)⟩,⟨by repeat (first|(with_reducible first|exact HB.out|apply bA|apply bN|apply bD|refine bS ?_ (IsS60.ge HI209.out))|exact HB.out)⟩⟩
   case round =>
    clear H'
    try clear c1
    try clear c2
    try clear p2
    try clear c3
    try clear c4
    try clear c4b0
    try clear c4b1
    try clear c5
    try clear c10
    try clear c10b0
    try clear c10b1
    try clear c10b2
    obtain ⟨x4_1,x5_1,x210001_1,rfl,rfl,HA,HK1,HI209,HB⟩:=hrel
    cases gk with
    | zero=>exact absurd HA.out (by simp [spec_DrawAddrRead.l0])
    | succ k1 =>
     have H:=HA.out
     clear HA
     simp only [spec_DrawAddrRead.l0] at H
     by_cases c19:x5_1 > 0
     ·rw [if_pos c19] at H
      have c19b0:decide (0 < x5_1) = true:=decide_eq_true c19
      clear c19
      by_cases c20:x4_1.size + 1 ≤ 9223372036854775807
      ·rw [if_pos c20] at H
       have c20b0:=eq_true c20
       have c20b1:=decide_eq_true c20
       try have c20b2:(9223372036854775807 < x4_1.size + 1) = False:=eq_false (Nat.not_lt.2 c20)
       replace H:=bI H
       obtain ⟨⟨t221,t222⟩,A210,H⟩:=H
       replace H:(if (x4_1 ++ (⟨#[47]⟩:ByteArray)).size + t221.size ≤ 9223372036854775807 then (spec_DrawAddrRead.l0 k1 ((x4_1 ++ (⟨#[47]⟩:ByteArray)) ++ t221) (wrap64 (x5_1 - 1)) t207 t222) else (none)) = some r:=H
       have A21:=Am A210
       clear A210
       by_cases c22:(x4_1 ++ (⟨#[47]⟩:ByteArray)).size + t221.size ≤ 9223372036854775807
       ·rw [if_pos c22] at H
        have c22b0:=eq_true c22
        have c22b1:=decide_eq_true c22
        try have c22b3:(9223372036854775807 < x4_1.size + 1 + t221.size) = False:=eq_false (Nat.not_lt.2 (by have h_:=c22;simp only [ByteArray.size_append] at h_;exact h_))
        try have c22b2:(9223372036854775807 < (x4_1 ++ (⟨#[47]⟩:ByteArray)).size + t221.size) = False:=eq_false (Nat.not_lt.2 c22)
        have H':=Am H
        clear H
        go_wp2_with (first|((with_reducible refine gate_callee (f:=54) rfl ?_);refine goesL_ (some 26) rfl rfl Tryd.func54 (by kernel_rfl) rfl #[.pointer (some ⟨g209,0,none⟩)] rfl (aE1 rfl) ?_;(with_reducible refine (spec_l71Part.calls k1 g209 t207 x210001_1 t221 t222 w _ ?side1 ?side2 A21.out).mono ?_);(case side1=>repeat (first|(with_reducible first|exact HI209.out|apply IsS60.alloc|apply IsS60.drewN|apply IsS60.drew|apply IsS60.set_1)|exact HI209.out));(case side2=>repeat (first|(with_reducible first|exact HB.out|apply bA|apply bN|apply bD|refine bS ?_ (IsS60.ge HI209.out))|exact HB.out));rintro e w23 ⟨rfl,hi,hb,hk⟩;refine ⟨_,rfl,?_⟩;have n0_:=Am (hb);have n1_:=Am (hi);clear HB HI209;have HB:=n0_;have HI209:=n1_;clear n0_ n1_;(try clear hb hk hi)))
        go_roundg k1
        case measure=>have:=HK1.out;omega
        case rel=>exact ⟨((x4_1 ++ (⟨#[47]⟩:ByteArray)) ++ t221),(wrap64 (x5_1 - 1)),(t222),(by first|rfl|(simp;done)|(simp only [i64_w,i32_w];done)|(simp only [i64_w,i32_w];rfl)|(simp [*];done)|(simp [emp_bne,emp_beq];done)),(by first|rfl|(simp;done)|(simp only [i64_w,i32_w];done)|(simp only [i64_w,i32_w];rfl)|(simp [*];done)|(simp [emp_bne,emp_beq];done)),H',⟨by have:=HK1.out;omega⟩,⟨by repeat (first|(with_reducible first|exact HI209.out|apply IsS60.alloc|apply IsS60.drewN|apply IsS60.drew|apply IsS60.set_1)|exact HI209.out)⟩,⟨by repeat (first|(with_reducible first|exact HB.out|apply bA|apply bN|apply bD|refine bS ?_ (IsS60.ge HI209.out))|exact HB.out)⟩⟩
       ·rw [if_neg c22] at H
        exact absurd H (by simp)
      ·rw [if_neg c20] at H
       exact absurd H (by simp)
     ·rw [if_neg c19] at H
      have c19b0:decide (0 < x5_1) = false:=decide_eq_false c19
      clear c19
      obtain ⟨y223,hy223⟩:∃ y_:List ByteArray,y_ = (([(⟨#[]⟩:ByteArray),(⟨#[]⟩:ByteArray),(⟨#[47]⟩:ByteArray),(⟨#[63,97]⟩:ByteArray),(⟨#[63,37,54,49,61,98]⟩:ByteArray),(⟨#[35,120]⟩:ByteArray),(⟨#[63,97,63,98]⟩:ByteArray),(⟨#[63,97,35,98]⟩:ByteArray)]:List ByteArray)):=⟨_,rfl⟩
      replace H:((spec_l6Rd_of.f k1 t207 x210001_1 y223).bind fun bt226=>(if x4_1.size + bt226.1.size ≤ 9223372036854775807 then (some (x4_1 ++ bt226.1)) else (none))) = some r:=by first|(rw [hy223];with_reducible exact H)|(have H2_:=(Option.bind_some _ _).symm.trans H;rw [hy223];with_reducible exact H2_)|(have H2_:=(Option.bind_some _ _).symm.trans H;with_reducible exact H2_)|with_reducible exact H|(rw [hy223];exact H)|exact H
      have Ny223:=Am hy223
      clear hy223
      replace H:=bI H
      obtain ⟨⟨t226,t227⟩,A240,H⟩:=H
      replace H:(if x4_1.size + t226.size ≤ 9223372036854775807 then (some (x4_1 ++ t226)) else (none)) = some r:=H
      have A24:=Am A240
      clear A240
      by_cases c25:x4_1.size + t226.size ≤ 9223372036854775807
      ·rw [if_pos c25] at H
       have c25b0:=eq_true c25
       have c25b1:=decide_eq_true c25
       try have c25b2:(9223372036854775807 < x4_1.size + t226.size) = False:=eq_false (Nat.not_lt.2 c25)
       obtain rfl:=Option.some.inj H
       go_wp2_with (first|((with_reducible refine gate_dst (N:=30) rfl ?_);refine Kd.R_lit Kd.string _ 9 ?hg (N:=30) ?hd (xs:=([(⟨#[]⟩:ByteArray),(⟨#[]⟩:ByteArray),(⟨#[47]⟩:ByteArray),(⟨#[63,97]⟩:ByteArray),(⟨#[63,37,54,49,61,98]⟩:ByteArray),(⟨#[35,120]⟩:ByteArray),(⟨#[63,97,63,98]⟩:ByteArray),(⟨#[63,97,35,98]⟩:ByteArray)]:List ByteArray)) (inner:=[.string (⟨#[]⟩:ByteArray), .string (⟨#[]⟩:ByteArray), .string (⟨#[47]⟩:ByteArray), .string (⟨#[63,97]⟩:ByteArray), .string (⟨#[63,37,54,49,61,98]⟩:ByteArray), .string (⟨#[35,120]⟩:ByteArray), .string (⟨#[63,97,63,98]⟩:ByteArray), .string (⟨#[63,97,35,98]⟩:ByteArray)]) (ok:=fun _=>True) (okp:=fun _=>True) ?hr ?hp (fun _ hk=>hk) trivial (Below.refl _ _) (Nat.le_refl _) (by simp) ?_;(case hd=>rfl);(case hg=>rfl);(case hr=>first|(go_simp;done)|(go_simp;rfl));(case hp=>exact (Reps.one (show Kd.M Kd.string _ _ _ (⟨#[]⟩:ByteArray) [.string (⟨#[]⟩:ByteArray)] from rfl) (Reps.one (show Kd.M Kd.string _ _ _ (⟨#[]⟩:ByteArray) [.string (⟨#[]⟩:ByteArray)] from rfl) (Reps.one (show Kd.M Kd.string _ _ _ (⟨#[47]⟩:ByteArray) [.string (⟨#[47]⟩:ByteArray)] from rfl) (Reps.one (show Kd.M Kd.string _ _ _ (⟨#[63,97]⟩:ByteArray) [.string (⟨#[63,97]⟩:ByteArray)] from rfl) (Reps.one (show Kd.M Kd.string _ _ _ (⟨#[63,37,54,49,61,98]⟩:ByteArray) [.string (⟨#[63,37,54,49,61,98]⟩:ByteArray)] from rfl) (Reps.one (show Kd.M Kd.string _ _ _ (⟨#[35,120]⟩:ByteArray) [.string (⟨#[35,120]⟩:ByteArray)] from rfl) (Reps.one (show Kd.M Kd.string _ _ _ (⟨#[63,97,63,98]⟩:ByteArray) [.string (⟨#[63,97,63,98]⟩:ByteArray)] from rfl) (Reps.one (show Kd.M Kd.string _ _ _ (⟨#[63,97,35,98]⟩:ByteArray) [.string (⟨#[63,97,35,98]⟩:ByteArray)] from rfl) (Reps.none _ _))))))))));intro v224 w26 ho27 hb hg_ hnew_;clear hg_ hnew_;(first|rw [← Ny223.out] at ho27|(simp only [Int.reduceToNat] at ho27;rw [← Ny223.out] at ho27));have n0_:=Am (Kd.R_lower ho27 (bU (by repeat (first|(with_reducible first|exact HB.out|apply bA|apply bN|apply bD|refine bS ?_ (IsS60.ge HI209.out))|exact HB.out))));have n1_:=Am (IsS60.below (by repeat (first|(with_reducible first|exact HI209.out|apply IsS60.alloc|apply IsS60.drewN|apply IsS60.drew|apply IsS60.set_1)|exact HI209.out)) hb);have n2_:=Am (bT (by repeat (first|(with_reducible first|exact HB.out|apply bA|apply bN|apply bD|refine bS ?_ (IsS60.ge HI209.out))|exact HB.out)) hb);clear HI209 HB;have HO225:=n0_;have HI209:=n1_;have HB:=n2_;clear n0_ n1_ n2_ hb ho27;obtain ⟨Ao28,co28,eo28⟩:=Kd.R_slice HO225.out;subst eo28)|((with_reducible refine gate_callee (f:=53) rfl ?_);refine goesL_ (some 31) rfl rfl Tryd.func53 (by kernel_rfl) rfl #[.pointer (some ⟨g209,0,none⟩), .slice Ao28 y223.length co28] rfl (aE2 rfl rfl) ?_;(with_reducible refine (spec_l6Rd_of.calls k1 g209 t207 x210001_1 _ _ y223 t226 t227 w _ ?side1 ?side2 ?side3 ?side4 ?side5 A24.out).mono ?_);(case side1=>repeat (first|(with_reducible first|exact HI209.out|apply IsS60.alloc|apply IsS60.drewN|apply IsS60.drew|apply IsS60.set_1)|exact HI209.out));(case side2=>repeat (first|(with_reducible first|exact HB.out|apply bA|apply bN|apply bD|refine bS ?_ (IsS60.ge HI209.out))|exact HB.out));(case side3=>repeat (first|exact (Kd.R_reads' HO225.out).2.2|(with_reducible refine bC ?_)));(case side4=>exact (Kd.R_reads' HO225.out).2.1);(case side5=>exact far_slice (IsS60.own_ne HI209.out HO225.out (by decide)));rintro e w29 ⟨rfl,hi,hb,hk⟩;refine ⟨_,rfl,?_⟩;have n0_:=Am (Kd.R_mono (Kd.R_keep (IsS60.apart (show IsS60 w _ g209 t207 x210001_1 from by repeat (first|(with_reducible first|exact HI209.out|apply IsS60.alloc|apply IsS60.drewN|apply IsS60.drew|apply IsS60.set_1)|exact HI209.out)) (bR HO225.out) (by decide)) hk (fun _ h=>h.2)) (fun _ h=>h.1));have n1_:=Am (hb);have n2_:=Am (hi);clear HO225 HB HI209;have HO225:=n0_;have HB:=n1_;have HI209:=n2_;clear n0_ n1_ n2_;(try clear hb hk hi)))
       go_ret
       exact ⟨by first|rfl|(simp <;> rfl)|(simp [*] <;> rfl),by repeat (first|(with_reducible first|exact HB.out|apply bA|apply bN|apply bD|refine bS ?_ (IsS60.ge HI209.out))|exact HB.out)⟩
      ·rw [if_neg c25] at H
       exact absurd H (by simp)
  ·rw [if_neg c10] at H
   exact absurd H (by simp)

def impl_AddrRead.f (k:Nat) (a0:ByteArray):Option (ByteArray × List ByteArray × Bool × ByteArray × Bool):=if (a0.size:Int) > 60 then (some ((⟨#[]⟩:ByteArray),([]:List ByteArray),false,(⟨#[]⟩:ByteArray),false)) else ((strings_Cut.f a0 (⟨#[35]⟩:ByteArray)).bind fun bt432=>((impl_readWhole.f k bt432.1).bind fun bt435=>(some (bt435.1,bt435.2.1,bt435.2.2.1,bt435.2.2.2.1,bt435.2.2.2.2))))
theorem impl_AddrRead.mono:∀ a0 k,LeO (impl_AddrRead.f k a0) (impl_AddrRead.f (k + 1) a0):=by
 intro a0 k
 unfold impl_AddrRead.f
 repeat' first
   | (with_reducible apply impl_readWhole.mono)
   | (with_reducible exact LeO.refl _)
   | (with_reducible exact LeO.none _)
   | (with_reducible refine LeO.ite ?_ ?_)
   | (with_reducible refine LeO.bind ?_ (fun _=>?_))
   | exact impl_readWhole.mono _ _
   | exact LeO.none _
   | refine LeO.ite ?_ ?_
   | refine LeO.bind ?_ (fun _=>?_)
theorem impl_AddrRead.calls (k:Nat) (a0:ByteArray) (r1:ByteArray) (r2:List ByteArray) (r3:Bool) (r4:ByteArray) (r5:Bool) (w:World) (h:impl_AddrRead.f k a0 = some (r1,r2,r3,r4,r5)) :
  Calls Tryd.prog 26 #[.string a0] w fun e w'=>∃ v1_:Value,e = .returned (.tuple #[.agg #[.string r1,v1_, .bool r3, .string r4], .bool r5]) ∧ Kd.R Kd.string 9 w' w.heap.size (fun _=>True) v1_ r2 ∧ Below w.heap.size w w':=by
 have hu25:=Tryd.underlying25
 have HB:=Am (Below.refl w.heap.size w)
 have H:(if (a0.size:Int) > 60 then (some ((⟨#[]⟩:ByteArray),([]:List ByteArray),false,(⟨#[]⟩:ByteArray),false)) else ((strings_Cut.f a0 (⟨#[35]⟩:ByteArray)).bind fun bt432=>((impl_readWhole.f k bt432.1).bind fun bt435=>(some (bt435.1,bt435.2.1,bt435.2.2.1,bt435.2.2.2.1,bt435.2.2.2.2))))) = some (r1,r2,r3,r4,r5):=h
 clear h
 by_cases c2:(a0.size:Int) > 60
 ·rw [if_pos c2] at H
  have c2b0:decide (60 < (a0.size:Int)) = true:=decide_eq_true c2
  have c2b1:decide (60 < a0.size) = true:=decide_eq_true (by omega)
  clear c2
  simp only [Option.some.injEq,Prod.mk.injEq] at H
  obtain ⟨rfl,rfl,rfl,rfl,rfl⟩:=H
  go_enter Tryd.func26,Tryd.ntmps26
  go_wp2_with (first|((with_reducible refine gate_dst (N:=2) rfl ?_);refine box_event ?hg (N:=2) ?hd (cs:=#[.string (⟨#[]⟩:ByteArray), .slice none 0 0, .bool false, .string (⟨#[]⟩:ByteArray)]) (t:=25) ?hr ?_;(case hd=>rfl);(case hg=>rfl);(case hr=>first|(go_simp;done)|(go_simp;rfl));intro gb431 hg w3 hbox hb;have n0_:=Am (bT (by repeat (first|(with_reducible first|exact HB.out|apply bA|apply bN|apply bD)|exact HB.out)) hb);have n1_:=Am (hbox);have n2_:=Am ((by rw [hg];exact (bU (by repeat (first|(with_reducible first|exact HB.out|apply bA|apply bN|apply bD)|exact HB.out))):w.heap.size ≤ gb431));have n3_:=n2_;clear HB;have HB:=n0_;have BK431:=n1_;have GW431:=n2_;have GE431:=n3_;clear n0_ n1_ n2_ n3_ hb hbox hg;have hcz4_0:w3.cell? ⟨gb431,0,none⟩ = some (.string (⟨#[]⟩:ByteArray)):=(bL BK431.out 0).trans rfl;have hcz4_1:w3.cell? ⟨gb431,1,none⟩ = some (.slice none 0 0):=(bL BK431.out 1).trans rfl;have hcz4_2:w3.cell? ⟨gb431,2,none⟩ = some (.bool false):=(bL BK431.out 2).trans rfl;have hcz4_3:w3.cell? ⟨gb431,3,none⟩ = some (.string (⟨#[]⟩:ByteArray)):=(bL BK431.out 3).trans rfl;have hfz4_0:=bZ BK431.out 0;have hfz4_1:=bZ BK431.out 1;have hfz4_2:=bZ BK431.out 2;have hfz4_3:=bZ BK431.out 3))
  refine bodyPost_ret (results_ct rfl _ _ gb431 25 #[.string (⟨#[]⟩:ByteArray), .slice none 0 0, .bool false, .string (⟨#[]⟩:ByteArray)] (0,0) _ rfl (by refine bB ?_;apply bP;refine bB ?_;exact BK431.out) Tryd.underlying25 rfl (by kernel_rfl)) rfl ?_
  exact ⟨_,by first|rfl|(simp <;> rfl)|(simp [*] <;> rfl),by first|exact Kd.R_nil _ _ _ _ _|exact Kd.N_nil _ _ _ _ _|exact Kd.V_nil _ _ _ _ _|exact Kd.Q_nil _ _ _ _ _|exact Kd.S_nil _ _ _ _ _,by repeat (first|(with_reducible first|exact HB.out|apply bA|apply bN|apply bD|refine bS ?_ GE431.out)|exact HB.out)⟩
 ·rw [if_neg c2] at H
  have c2b0:decide (60 < (a0.size:Int)) = false:=decide_eq_false c2
  have c2b1:decide (60 < a0.size) = false:=decide_eq_false (by omega)
  clear c2
  replace H:=bI H
  obtain ⟨⟨t432,t433,t434⟩,A50,H⟩:=H
  replace H:((impl_readWhole.f k t432).bind fun bt435=>(some (bt435.1,bt435.2.1,bt435.2.2.1,bt435.2.2.2.1,bt435.2.2.2.2))) = some (r1,r2,r3,r4,r5):=H
  have A5:=Am A50
  clear A50
  replace H:=bI H
  obtain ⟨⟨t435,t436,t439,t440,t441⟩,A60,H⟩:=H
  replace H:(some (t435,t436,t439,t440,t441)) = some (r1,r2,r3,r4,r5):=H
  have A6:=Am A60
  clear A60
  simp only [Option.some.injEq,Prod.mk.injEq] at H
  obtain ⟨rfl,rfl,rfl,rfl,rfl⟩:=H
  go_enter Tryd.func26,Tryd.ntmps26
  go_wp2_with (first|((with_reducible refine gate_dst (N:=2) rfl ?_);refine box_event ?hg (N:=2) ?hd (cs:=#[.string (⟨#[]⟩:ByteArray), .slice none 0 0, .bool false, .string (⟨#[]⟩:ByteArray)]) (t:=25) ?hr ?_;(case hd=>rfl);(case hg=>rfl);(case hr=>first|(go_simp;done)|(go_simp;rfl));intro gb431 hg w7 hbox hb;have n0_:=Am (bT (by repeat (first|(with_reducible first|exact HB.out|apply bA|apply bN|apply bD)|exact HB.out)) hb);have n1_:=Am (hbox);have n2_:=Am ((by rw [hg];exact (bU (by repeat (first|(with_reducible first|exact HB.out|apply bA|apply bN|apply bD)|exact HB.out))):w.heap.size ≤ gb431));have n3_:=n2_;clear HB;have HB:=n0_;have BK431:=n1_;have GW431:=n2_;have GE431:=n3_;clear n0_ n1_ n2_ n3_ hb hbox hg)|((with_reducible refine gate_callee (f:=36) rfl ?_);refine goesL_ (some 13) rfl rfl Tryd.func36 (by kernel_rfl) rfl #[.string a0, .string (⟨#[35]⟩:ByteArray)] rfl (aE2 rfl rfl) ?_;(with_reducible refine (strings_Cut.calls a0 (⟨#[35]⟩:ByteArray) t432 t433 t434 _ A5.out).mono ?_);rintro e w' ⟨rfl,⟨nd,rfl⟩⟩;refine ⟨_,rfl,?_⟩;(try (rw [drewN_self w7];generalize hq_:World.drewN w7 _ = w7;have n0_:Aside0 (w7.heap[gb431]? = some (.cells #[.string (⟨#[]⟩:ByteArray), .slice none 0 0, .bool false, .string (⟨#[]⟩:ByteArray)] 25 (0,0))):=⟨by rw [← hq_];exact (bB BK431.out)⟩;have n1_:Aside0 (Below w.heap.size w w7):=⟨by rw [← hq_];exact (by repeat (first|(with_reducible first|exact HB.out|apply bA|apply bN|apply bD|refine bS ?_ GE431.out)|exact HB.out))⟩;clear BK431 HB hq_;have BK431:=n0_;have HB:=n1_;clear n0_ n1_)))|((with_reducible refine gate_callee (f:=38) rfl ?_);refine goesL_ (some 18) rfl rfl Tryd.func38 (by kernel_rfl) rfl #[.string t432] rfl (aE1 rfl) ?_;(with_reducible refine (impl_readWhole.calls k t432 t435 t436 t439 t440 t441 _ A6.out).mono ?_);rintro e w8 ⟨v437,rfl,ho0,hb⟩;refine ⟨_,rfl,?_⟩;have n0_:=Am (Kd.R_lower ho0 (bU (by repeat (first|(with_reducible first|exact HB.out|apply bA|apply bN|apply bD|refine bS ?_ GE431.out)|exact HB.out))));have n1_:=Am (blk_below (bB BK431.out) hb);have n2_:=Am (bT (by repeat (first|(with_reducible first|exact HB.out|apply bA|apply bN|apply bD|refine bS ?_ GE431.out)|exact HB.out)) hb);clear BK431 HB;have HO438:=n0_;have BK431:=n1_;have HB:=n2_;clear n0_ n1_ n2_;(try clear hb);(try clear ho0);have hcz9_0:w8.cell? ⟨gb431,0,none⟩ = some (.string (⟨#[]⟩:ByteArray)):=(bL BK431.out 0).trans rfl;have hcz9_1:w8.cell? ⟨gb431,1,none⟩ = some (.slice none 0 0):=(bL BK431.out 1).trans rfl;have hcz9_2:w8.cell? ⟨gb431,2,none⟩ = some (.bool false):=(bL BK431.out 2).trans rfl;have hcz9_3:w8.cell? ⟨gb431,3,none⟩ = some (.string (⟨#[]⟩:ByteArray)):=(bL BK431.out 3).trans rfl;have hfz9_0:=bZ BK431.out 0;have hfz9_1:=bZ BK431.out 1;have hfz9_2:=bZ BK431.out 2;have hfz9_3:=bZ BK431.out 3;obtain ⟨Ao10,co10,eo10⟩:=Kd.R_slice HO438.out;subst eo10))
  refine bodyPost_ret (results_ct rfl _ _ gb431 25 #[.string t435, .slice Ao10 t436.length co10, .bool t439, .string t440] (0,0) _ rfl (by refine bB ?_;apply bP;refine bB ?_;exact BK431.out) Tryd.underlying25 rfl (by kernel_rfl)) rfl ?_
  exact ⟨_,by first|rfl|(simp <;> rfl)|(simp [*] <;> rfl),by (with_reducible repeat (first|apply rA|apply rN|apply rD));exact Kd.R_mono (Kd.R_far (p:=⟨gb431,3,none⟩) (Kd.R_far (p:=⟨gb431,2,none⟩) (Kd.R_far (p:=⟨gb431,1,none⟩) (Kd.R_far (p:=⟨gb431,0,none⟩) (Kd.R_types HO438.out BK431.out (by decide)) (fun _ hk=>hk.2) (.string t435)) (fun _ hk=>hk.2) (.slice Ao10 t436.length co10)) (fun _ hk=>hk.2) (.bool t439)) (fun _ hk=>hk.2) (.string t440)) (fun _ hk=>trivial),by repeat (first|(with_reducible first|exact HB.out|apply bA|apply bN|apply bD|refine bS ?_ GE431.out)|exact HB.out)⟩

def laws_lpBare.l0:Nat → ByteArray → Int → Option (Bool)
 | 0,_,_=>none
 | k + 1,x0,x3=>if x3 < (x0.size:Int) then (if 0 ≤ x3 then (if (bt x0 x3) = 63 then (some false) else (if (bt x0 x3) = 35 then (some false) else (laws_lpBare.l0 k x0 (wrap64 (x3 + 1))))) else (none)) else (some true)
def laws_lpBare.f (k:Nat) (a0:ByteArray):Option (Bool):=laws_lpBare.l0 k a0 0
theorem laws_lpBare.mono_l:∀ k,(∀ y0 y1,LeO (laws_lpBare.l0 k y0 y1) (laws_lpBare.l0 (k + 1) y0 y1))
 | 0=>fun _ _ r h=>by simp [laws_lpBare.l0] at h
 | k + 1=>by
  have ih0:=laws_lpBare.mono_l k
  ·intro y0 y1
   unfold laws_lpBare.l0
   repeat' first
   | (with_reducible apply ih0)
   | (with_reducible exact LeO.refl _)
   | (with_reducible exact LeO.none _)
   | (with_reducible refine LeO.ite ?_ ?_)
   | (with_reducible refine LeO.bind ?_ (fun _=>?_))
   | exact ih0 _ _
   | exact LeO.none _
   | refine LeO.ite ?_ ?_
   | refine LeO.bind ?_ (fun _=>?_)
theorem laws_lpBare.mono:∀ a0 k,LeO (laws_lpBare.f k a0) (laws_lpBare.f (k + 1) a0):=by
 intro a0 k
 have ih0:=laws_lpBare.mono_l k
 unfold laws_lpBare.f
 repeat' first
   | (with_reducible apply ih0)
   | (with_reducible exact LeO.refl _)
   | (with_reducible exact LeO.none _)
   | (with_reducible refine LeO.ite ?_ ?_)
   | (with_reducible refine LeO.bind ?_ (fun _=>?_))
   | exact ih0 _ _
   | exact LeO.none _
   | refine LeO.ite ?_ ?_
   | refine LeO.bind ?_ (fun _=>?_)
theorem laws_lpBare.calls (k:Nat) (a0:ByteArray) (r:Bool) (w:World) (h:laws_lpBare.f k a0 = some r) :
  Calls Tryd.prog 27 #[.string a0] w fun e w'=>e = .returned (.bool r) ∧ Drawn0 w w':=by
 have H:(laws_lpBare.l0 k a0 0) = some r:=h
 clear h
 have H':=Am H
 clear H
 go_enter Tryd.func27,Tryd.ntmps27
 go_wp2
 go_loopg [3] k (fun kq v3 w'=>∃ (x3_1:Int),v3 = .int .i64 x3_1 ∧ Aside0 (laws_lpBare.l0 kq a0 x3_1 = some r) ∧ Aside0 (kq ≤ k) ∧ Drawn0 w w')
 case atStart=>exact ⟨(0),(by first|rfl|(simp;done)|(simp only [i64_w,i32_w];done)|(simp only [i64_w,i32_w];rfl)|(simp [*];done)|(simp [emp_bne,emp_beq];done)),H',⟨Nat.le_refl _⟩,by repeat (first|exact Drawn0.refl _|apply Drawn0.step)⟩
 case round =>
  clear H'
  obtain ⟨x3_1,rfl,HA,HK1,⟨m1,rfl⟩⟩:=hrel
  cases gk with
  | zero=>exact absurd HA.out (by simp [laws_lpBare.l0])
  | succ k1 =>
   have H:=HA.out
   clear HA
   simp only [laws_lpBare.l0] at H
   by_cases c2:x3_1 < (a0.size:Int)
   ·rw [if_pos c2] at H
    have c2b0:decide (x3_1 < (a0.size:Int)) = true:=decide_eq_true c2
    clear c2
    by_cases c3:0 ≤ x3_1
    ·rw [if_pos c3] at H
     have c3b0:decide (0 ≤ x3_1) = true:=decide_eq_true c3
     clear c3
     by_cases c5:(bt a0 x3_1) = 63
     ·rw [if_pos c5] at H
      have c5b0:((bt a0 x3_1) == 63) = true:=beq_iff_eq.mpr c5
      have c5b1:((bt a0 x3_1) != 63) = false:=bne_eq_false_iff_eq.mpr c5
      clear c5
      obtain rfl:=Option.some.inj H
      have p4:0 ≤ (x3_1:Int):=oD (by assumption)
      have q4:x3_1 < (a0.size:Int):=oD (by assumption)
      have hx4:=bt_at a0 x3_1
      replace p4:=eq_true p4
      replace q4:=eq_true q4
      go_wp2
      go_ret
      exact ⟨by first|rfl|(simp;done)|(simp only [i64_w,i32_w];done)|(simp only [i64_w,i32_w];rfl)|(simp [*];done)|(simp [emp_bne,emp_beq];done),by repeat (first|exact Drawn0.refl _|apply Drawn0.step)⟩
     ·rw [if_neg c5] at H
      have c5b0:((bt a0 x3_1) == 63) = false:=beq_eq_false_iff_ne.mpr c5
      have c5b1:((bt a0 x3_1) != 63) = true:=bne_iff_ne.mpr c5
      by_cases c7:(bt a0 x3_1) = 35
      ·rw [if_pos c7] at H
       have c7b0:((bt a0 x3_1) == 35) = true:=beq_iff_eq.mpr c7
       have c7b1:((bt a0 x3_1) != 35) = false:=bne_eq_false_iff_eq.mpr c7
       clear c7
       obtain rfl:=Option.some.inj H
       have p4:0 ≤ (x3_1:Int):=oD (by assumption)
       have q4:x3_1 < (a0.size:Int):=oD (by assumption)
       have hx4:=bt_at a0 x3_1
       replace p4:=eq_true p4
       replace q4:=eq_true q4
       have p6:0 ≤ (x3_1:Int):=oD (by assumption)
       have q6:x3_1 < (a0.size:Int):=oD (by assumption)
       have hx6:=bt_at a0 x3_1
       replace p6:=eq_true p6
       replace q6:=eq_true q6
       go_wp2
       go_ret
       exact ⟨by first|rfl|(simp;done)|(simp only [i64_w,i32_w];done)|(simp only [i64_w,i32_w];rfl)|(simp [*];done)|(simp [emp_bne,emp_beq];done),by repeat (first|exact Drawn0.refl _|apply Drawn0.step)⟩
      ·rw [if_neg c7] at H
       have c7b0:((bt a0 x3_1) == 35) = false:=beq_eq_false_iff_ne.mpr c7
       have c7b1:((bt a0 x3_1) != 35) = true:=bne_iff_ne.mpr c7
       have H':=Am H
       clear H
       have p4:0 ≤ (x3_1:Int):=oD (by assumption)
       have q4:x3_1 < (a0.size:Int):=oD (by assumption)
       have hx4:=bt_at a0 x3_1
       replace p4:=eq_true p4
       replace q4:=eq_true q4
       have p6:0 ≤ (x3_1:Int):=oD (by assumption)
       have q6:x3_1 < (a0.size:Int):=oD (by assumption)
       have hx6:=bt_at a0 x3_1
       replace p6:=eq_true p6
       replace q6:=eq_true q6
       go_wp2
       go_roundg k1
       case measure=>have:=HK1.out;omega
       case rel=>exact ⟨(wrap64 (x3_1 + 1)),(by first|rfl|(simp;done)|(simp only [i64_w,i32_w];done)|(simp only [i64_w,i32_w];rfl)|(simp [*];done)|(simp [emp_bne,emp_beq];done)),H',⟨by have:=HK1.out;omega⟩,by repeat (first|exact Drawn0.refl _|apply Drawn0.step)⟩
    ·rw [if_neg c3] at H
     exact absurd H (by simp)
   ·rw [if_neg c2] at H
    have c2b0:decide (x3_1 < (a0.size:Int)) = false:=decide_eq_false c2
    clear c2
    obtain rfl:=Option.some.inj H
    go_wp2
    go_ret
    exact ⟨by first|rfl|(simp;done)|(simp only [i64_w,i32_w];done)|(simp only [i64_w,i32_w];rfl)|(simp [*];done)|(simp [emp_bne,emp_beq];done),by repeat (first|exact Drawn0.refl _|apply Drawn0.step)⟩

def laws_FnAddrStroke.j0:Nat → ByteArray → Bool → Bool → Bool → ByteArray → List ByteArray → Bool → ByteArray → ByteArray → List ByteArray → Bool → ByteArray → Option (Bool)
 | 0,_,_,_,_,_,_,_,_,_,_,_,_=>none
 | k + 1,x3,x5,x7,x50,x451000,x451001,x451002,x451003,x459000,x459001,x459002,x459003=>if x50 = true then (if (x7 == x5) = true then ((laws_lpAddr.f k x459000 x459001 x459002 x459003 x451000 x451001 x451002 x451003).bind fun t461=>(some t461)) else (some false)) else (if x3.size + 1 ≤ 9223372036854775807 then ((impl_AddrRead.f k (x3 ++ (⟨#[47]⟩:ByteArray))).bind fun bt462=>(if x3.size + 3 ≤ 9223372036854775807 then ((impl_AddrRead.f k (x3 ++ (⟨#[47,46,47]⟩:ByteArray))).bind fun bt470=>(if bt462.2.2.2.2 = true then ((laws_lpAddr.f k bt462.1 bt462.2.1 bt462.2.2.1 bt462.2.2.2.1 x459000 x459001 x459002 x459003).bind fun t478=>(if t478 = true then (if bt470.2.2.2.2 = true then ((laws_lpAddr.f k bt470.1 bt470.2.1 bt470.2.2.1 bt470.2.2.2.1 x459000 x459001 x459002 x459003).bind fun t479=>(some t479)) else (some false)) else (some false))) else (some false))) else (none))) else (none))
def laws_FnAddrStroke.f (k:Nat) (l0:List Int):Option (Bool):=if (l0.length:Int) > 1048576 then (some true) else ((spec_DrawAddrRead.f k l0).bind fun t442=>((spec_AddrRead.f k t442).bind fun bt443=>((impl_AddrRead.f k t442).bind fun bt451=>(if (bt451.2.2.2.2 != bt443.2.2.2.2) = true then (laws_FnAddrStroke.j0 k t442 bt443.2.2.2.2 bt451.2.2.2.2 true bt443.1 bt443.2.1 bt443.2.2.1 bt443.2.2.2.1 bt451.1 bt451.2.1 bt451.2.2.1 bt451.2.2.2.1) else ((laws_lpAddr.f k bt451.1 bt451.2.1 bt451.2.2.1 bt451.2.2.2.1 bt443.1 bt443.2.1 bt443.2.2.1 bt443.2.2.2.1).bind fun t459=>(if t459 = true then (if bt451.2.2.2.2 = true then ((laws_lpBare.f k t442).bind fun t460=>(if t460 = true then (laws_FnAddrStroke.j0 k t442 bt443.2.2.2.2 bt451.2.2.2.2 (decide ((wrap64 ((t442.size:Int) + 4)) > 60)) bt443.1 bt443.2.1 bt443.2.2.1 bt443.2.2.2.1 bt451.1 bt451.2.1 bt451.2.2.1 bt451.2.2.2.1) else (laws_FnAddrStroke.j0 k t442 bt443.2.2.2.2 bt451.2.2.2.2 true bt443.1 bt443.2.1 bt443.2.2.1 bt443.2.2.2.1 bt451.1 bt451.2.1 bt451.2.2.1 bt451.2.2.2.1))) else (laws_FnAddrStroke.j0 k t442 bt443.2.2.2.2 bt451.2.2.2.2 true bt443.1 bt443.2.1 bt443.2.2.1 bt443.2.2.2.1 bt451.1 bt451.2.1 bt451.2.2.1 bt451.2.2.2.1)) else (laws_FnAddrStroke.j0 k t442 bt443.2.2.2.2 bt451.2.2.2.2 true bt443.1 bt443.2.1 bt443.2.2.1 bt443.2.2.2.1 bt451.1 bt451.2.1 bt451.2.2.1 bt451.2.2.2.1)))))))
theorem laws_FnAddrStroke.mono_l:∀ k,(∀ y0 y1 y2 y3 y4 y5 y6 y7 y8 y9 y10 y11,LeO (laws_FnAddrStroke.j0 k y0 y1 y2 y3 y4 y5 y6 y7 y8 y9 y10 y11) (laws_FnAddrStroke.j0 (k + 1) y0 y1 y2 y3 y4 y5 y6 y7 y8 y9 y10 y11))
 | 0=>fun _ _ _ _ _ _ _ _ _ _ _ _ r h=>by simp [laws_FnAddrStroke.j0] at h
 | k + 1=>by
  have ih0:=laws_FnAddrStroke.mono_l k
  ·intro y0 y1 y2 y3 y4 y5 y6 y7 y8 y9 y10 y11
   unfold laws_FnAddrStroke.j0
   repeat' first
   | (with_reducible apply ih0)
   | (with_reducible apply impl_AddrRead.mono)
   | (with_reducible apply laws_lpAddr.mono)
   | (with_reducible apply laws_lpBare.mono)
   | (with_reducible apply spec_AddrRead.mono)
   | (with_reducible apply spec_DrawAddrRead.mono)
   | (with_reducible exact LeO.refl _)
   | (with_reducible exact LeO.none _)
   | (with_reducible refine LeO.ite ?_ ?_)
   | (with_reducible refine LeO.bind ?_ (fun _=>?_))
   | exact ih0 _ _ _ _ _ _ _ _ _ _ _ _
   | exact impl_AddrRead.mono _ _
   | exact laws_lpAddr.mono _ _ _ _ _ _ _ _ _
   | exact laws_lpBare.mono _ _
   | exact spec_AddrRead.mono _ _
   | exact spec_DrawAddrRead.mono _ _
   | exact LeO.none _
   | refine LeO.ite ?_ ?_
   | refine LeO.bind ?_ (fun _=>?_)
theorem laws_FnAddrStroke.mono:∀ a0 k,LeO (laws_FnAddrStroke.f k a0) (laws_FnAddrStroke.f (k + 1) a0):=by
 intro a0 k
 have ih0:=laws_FnAddrStroke.mono_l k
 unfold laws_FnAddrStroke.f
 repeat' first
   | (with_reducible apply ih0)
   | (with_reducible apply impl_AddrRead.mono)
   | (with_reducible apply laws_lpAddr.mono)
   | (with_reducible apply laws_lpBare.mono)
   | (with_reducible apply spec_AddrRead.mono)
   | (with_reducible apply spec_DrawAddrRead.mono)
   | (with_reducible exact LeO.refl _)
   | (with_reducible exact LeO.none _)
   | (with_reducible refine LeO.ite ?_ ?_)
   | (with_reducible refine LeO.bind ?_ (fun _=>?_))
   | exact ih0 _ _ _ _ _ _ _ _ _ _ _ _
   | exact impl_AddrRead.mono _ _
   | exact laws_lpAddr.mono _ _ _ _ _ _ _ _ _
   | exact laws_lpBare.mono _ _
   | exact spec_AddrRead.mono _ _
   | exact spec_DrawAddrRead.mono _ _
   | exact LeO.none _
   | refine LeO.ite ?_ ?_
   | refine LeO.bind ?_ (fun _=>?_)
theorem laws_FnAddrStroke.calls (k:Nat) (A0:Option Addr) (c0:Nat) (l0:List Int) (r:Bool) (w:World) (hr0:Kd.C (Kd.int .u8) w A0 l0.length l0) (hc0:l0.length ≤ c0) (h:laws_FnAddrStroke.f k l0 = some r) :
  Calls Tryd.prog 6 #[.slice A0 l0.length c0] w fun e w'=>e = .returned (.bool r) ∧ Below w.heap.size w w':=by
 have hu25:=Tryd.underlying25
 have HR0:=Am hr0
 have HC0:=Am hc0
 clear hr0 hc0
 have HB:=Am (Below.refl w.heap.size w)
 have H:(if (l0.length:Int) > 1048576 then (some true) else ((spec_DrawAddrRead.f k l0).bind fun t442=>((spec_AddrRead.f k t442).bind fun bt443=>((impl_AddrRead.f k t442).bind fun bt451=>(if (bt451.2.2.2.2 != bt443.2.2.2.2) = true then (laws_FnAddrStroke.j0 k t442 bt443.2.2.2.2 bt451.2.2.2.2 true bt443.1 bt443.2.1 bt443.2.2.1 bt443.2.2.2.1 bt451.1 bt451.2.1 bt451.2.2.1 bt451.2.2.2.1) else ((laws_lpAddr.f k bt451.1 bt451.2.1 bt451.2.2.1 bt451.2.2.2.1 bt443.1 bt443.2.1 bt443.2.2.1 bt443.2.2.2.1).bind fun t459=>(if t459 = true then (if bt451.2.2.2.2 = true then ((laws_lpBare.f k t442).bind fun t460=>(if t460 = true then (laws_FnAddrStroke.j0 k t442 bt443.2.2.2.2 bt451.2.2.2.2 (decide ((wrap64 ((t442.size:Int) + 4)) > 60)) bt443.1 bt443.2.1 bt443.2.2.1 bt443.2.2.2.1 bt451.1 bt451.2.1 bt451.2.2.1 bt451.2.2.2.1) else (laws_FnAddrStroke.j0 k t442 bt443.2.2.2.2 bt451.2.2.2.2 true bt443.1 bt443.2.1 bt443.2.2.1 bt443.2.2.2.1 bt451.1 bt451.2.1 bt451.2.2.1 bt451.2.2.2.1))) else (laws_FnAddrStroke.j0 k t442 bt443.2.2.2.2 bt451.2.2.2.2 true bt443.1 bt443.2.1 bt443.2.2.1 bt443.2.2.2.1 bt451.1 bt451.2.1 bt451.2.2.1 bt451.2.2.2.1)) else (laws_FnAddrStroke.j0 k t442 bt443.2.2.2.2 bt451.2.2.2.2 true bt443.1 bt443.2.1 bt443.2.2.1 bt443.2.2.2.1 bt451.1 bt451.2.1 bt451.2.2.1 bt451.2.2.2.1)))))))) = some r:=h
 clear h
 by_cases c2:(l0.length:Int) > 1048576
 ·rw [if_pos c2] at H
  have c2b0:decide (1048576 < (l0.length:Int)) = true:=decide_eq_true c2
  have c2b1:decide (1048576 < l0.length) = true:=decide_eq_true (by omega)
  clear c2
  obtain rfl:=Option.some.inj H
  go_enter Tryd.func6,Tryd.ntmps6
  go_wp2
  go_ret
  exact ⟨by first|rfl|(simp <;> rfl)|(simp [*] <;> rfl),by repeat (first|(with_reducible first|exact HB.out|apply bA|apply bN|apply bD)|exact HB.out)⟩
 ·rw [if_neg c2] at H
  have c2b0:decide (1048576 < (l0.length:Int)) = false:=decide_eq_false c2
  have c2b1:decide (1048576 < l0.length) = false:=decide_eq_false (by omega)
  clear c2
  replace H:=bI H
  obtain ⟨t442,A30,H⟩:=H
  replace H:((spec_AddrRead.f k t442).bind fun bt443=>((impl_AddrRead.f k t442).bind fun bt451=>(if (bt451.2.2.2.2 != bt443.2.2.2.2) = true then (laws_FnAddrStroke.j0 k t442 bt443.2.2.2.2 bt451.2.2.2.2 true bt443.1 bt443.2.1 bt443.2.2.1 bt443.2.2.2.1 bt451.1 bt451.2.1 bt451.2.2.1 bt451.2.2.2.1) else ((laws_lpAddr.f k bt451.1 bt451.2.1 bt451.2.2.1 bt451.2.2.2.1 bt443.1 bt443.2.1 bt443.2.2.1 bt443.2.2.2.1).bind fun t459=>(if t459 = true then (if bt451.2.2.2.2 = true then ((laws_lpBare.f k t442).bind fun t460=>(if t460 = true then (laws_FnAddrStroke.j0 k t442 bt443.2.2.2.2 bt451.2.2.2.2 (decide ((wrap64 ((t442.size:Int) + 4)) > 60)) bt443.1 bt443.2.1 bt443.2.2.1 bt443.2.2.2.1 bt451.1 bt451.2.1 bt451.2.2.1 bt451.2.2.2.1) else (laws_FnAddrStroke.j0 k t442 bt443.2.2.2.2 bt451.2.2.2.2 true bt443.1 bt443.2.1 bt443.2.2.1 bt443.2.2.2.1 bt451.1 bt451.2.1 bt451.2.2.1 bt451.2.2.2.1))) else (laws_FnAddrStroke.j0 k t442 bt443.2.2.2.2 bt451.2.2.2.2 true bt443.1 bt443.2.1 bt443.2.2.1 bt443.2.2.2.1 bt451.1 bt451.2.1 bt451.2.2.1 bt451.2.2.2.1)) else (laws_FnAddrStroke.j0 k t442 bt443.2.2.2.2 bt451.2.2.2.2 true bt443.1 bt443.2.1 bt443.2.2.1 bt443.2.2.2.1 bt451.1 bt451.2.1 bt451.2.2.1 bt451.2.2.2.1)))))) = some r:=H
  have A3:=Am A30
  clear A30
  replace H:=bI H
  obtain ⟨⟨t443,t444,t447,t448,t449⟩,A40,H⟩:=H
  replace H:((impl_AddrRead.f k t442).bind fun bt451=>(if (bt451.2.2.2.2 != t449) = true then (laws_FnAddrStroke.j0 k t442 t449 bt451.2.2.2.2 true t443 t444 t447 t448 bt451.1 bt451.2.1 bt451.2.2.1 bt451.2.2.2.1) else ((laws_lpAddr.f k bt451.1 bt451.2.1 bt451.2.2.1 bt451.2.2.2.1 t443 t444 t447 t448).bind fun t459=>(if t459 = true then (if bt451.2.2.2.2 = true then ((laws_lpBare.f k t442).bind fun t460=>(if t460 = true then (laws_FnAddrStroke.j0 k t442 t449 bt451.2.2.2.2 (decide ((wrap64 ((t442.size:Int) + 4)) > 60)) t443 t444 t447 t448 bt451.1 bt451.2.1 bt451.2.2.1 bt451.2.2.2.1) else (laws_FnAddrStroke.j0 k t442 t449 bt451.2.2.2.2 true t443 t444 t447 t448 bt451.1 bt451.2.1 bt451.2.2.1 bt451.2.2.2.1))) else (laws_FnAddrStroke.j0 k t442 t449 bt451.2.2.2.2 true t443 t444 t447 t448 bt451.1 bt451.2.1 bt451.2.2.1 bt451.2.2.2.1)) else (laws_FnAddrStroke.j0 k t442 t449 bt451.2.2.2.2 true t443 t444 t447 t448 bt451.1 bt451.2.1 bt451.2.2.1 bt451.2.2.2.1))))) = some r:=H
  have A4:=Am A40
  clear A40
  replace H:=bI H
  obtain ⟨⟨t451,t452,t455,t456,t457⟩,A50,H⟩:=H
  replace H:(if (t457 != t449) = true then (laws_FnAddrStroke.j0 k t442 t449 t457 true t443 t444 t447 t448 t451 t452 t455 t456) else ((laws_lpAddr.f k t451 t452 t455 t456 t443 t444 t447 t448).bind fun t459=>(if t459 = true then (if t457 = true then ((laws_lpBare.f k t442).bind fun t460=>(if t460 = true then (laws_FnAddrStroke.j0 k t442 t449 t457 (decide ((wrap64 ((t442.size:Int) + 4)) > 60)) t443 t444 t447 t448 t451 t452 t455 t456) else (laws_FnAddrStroke.j0 k t442 t449 t457 true t443 t444 t447 t448 t451 t452 t455 t456))) else (laws_FnAddrStroke.j0 k t442 t449 t457 true t443 t444 t447 t448 t451 t452 t455 t456)) else (laws_FnAddrStroke.j0 k t442 t449 t457 true t443 t444 t447 t448 t451 t452 t455 t456)))) = some r:=H
  have A5:=Am A50
  clear A50
  have HC6:=Am H
  clear H
  go_enter Tryd.func6,Tryd.ntmps6
  go_upto_region 6 with (first|((with_reducible refine gate_callee (f:=24) rfl ?_);refine goesL_ (some 16) rfl rfl Tryd.func24 (by kernel_rfl) rfl #[.slice A0 l0.length c0] rfl (aE1 rfl) ?_;(with_reducible refine (spec_DrawAddrRead.calls k _ _ l0 t442 _ ?side1 ?side2 A3.out).mono ?_);(case side1=>repeat (first|exact HR0.out|(with_reducible refine bC ?_)));(case side2=>exact HC0.out);rintro e w7 ⟨rfl,hb⟩;refine ⟨_,rfl,?_⟩;have n0_:=Am (bT (by repeat (first|(with_reducible first|exact HB.out|apply bA|apply bN|apply bD)|exact HB.out)) hb);clear HB;have HB:=n0_;clear n0_;(try clear hb))|((with_reducible refine gate_callee (f:=25) rfl ?_);refine goesL_ (some 19) rfl rfl Tryd.func25 (by kernel_rfl) rfl #[.string t442] rfl (aE1 rfl) ?_;(with_reducible refine (spec_AddrRead.calls k t442 t443 t444 t447 t448 t449 _ A4.out).mono ?_);rintro e w8 ⟨v445,rfl,ho0,hb⟩;refine ⟨_,rfl,?_⟩;have n0_:=Am (Kd.R_lower ho0 (bU (by repeat (first|(with_reducible first|exact HB.out|apply bA|apply bN|apply bD)|exact HB.out))));have n1_:=Am (bT (by repeat (first|(with_reducible first|exact HB.out|apply bA|apply bN|apply bD)|exact HB.out)) hb);clear HB;have HO446:=n0_;have HB:=n1_;clear n0_ n1_;(try clear hb);(try clear ho0))|((with_reducible refine gate_dst (N:=4) rfl ?_);(try (refine gate_guard (by rfl) ?_;dsimp only));refine box_event ?hg (N:=4) ?hd (cs:=#[.string (⟨#[]⟩:ByteArray), .slice none 0 0, .bool false, .string (⟨#[]⟩:ByteArray)]) (t:=25) ?hr ?_;(case hd=>rfl);(case hg=>rfl);(case hr=>first|(go_simp;done)|(go_simp;rfl));intro gb450 hg w9 hbox hb;have n0_:=Am (Kd.R_below (bR HO446.out) hb);have n1_:=Am (bT (by repeat (first|(with_reducible first|exact HB.out|apply bA|apply bN|apply bD)|exact HB.out)) hb);have n2_:=Am (hbox);have n3_:=Am ((by rw [hg];exact (bU (by repeat (first|(with_reducible first|exact HB.out|apply bA|apply bN|apply bD)|exact HB.out))):w.heap.size ≤ gb450));have n4_:=n3_;clear HO446 HB;have HO446:=n0_;have HB:=n1_;have BK450:=n2_;have GW450:=n3_;have GE450:=n4_;clear n0_ n1_ n2_ n3_ n4_ hb hbox hg;have hcz10_0:w9.cell? ⟨gb450,0,none⟩ = some (.string (⟨#[]⟩:ByteArray)):=(bL BK450.out 0).trans rfl;have hcz10_1:w9.cell? ⟨gb450,1,none⟩ = some (.slice none 0 0):=(bL BK450.out 1).trans rfl;have hcz10_2:w9.cell? ⟨gb450,2,none⟩ = some (.bool false):=(bL BK450.out 2).trans rfl;have hcz10_3:w9.cell? ⟨gb450,3,none⟩ = some (.string (⟨#[]⟩:ByteArray)):=(bL BK450.out 3).trans rfl;have hfz10_0:=bZ BK450.out 0;have hfz10_1:=bZ BK450.out 1;have hfz10_2:=bZ BK450.out 2;have hfz10_3:=bZ BK450.out 3;obtain ⟨Ao11,co11,eo11⟩:=Kd.R_slice HO446.out;subst eo11)|((with_reducible refine gate_callee (f:=26) rfl ?_);refine goesL_ (some 24) rfl rfl Tryd.func26 (by kernel_rfl) rfl #[.string t442] rfl (aE1 rfl) ?_;(with_reducible refine (impl_AddrRead.calls k t442 t451 t452 t455 t456 t457 _ A5.out).mono ?_);rintro e w12 ⟨v453,rfl,ho0,hb⟩;refine ⟨_,rfl,?_⟩;have n0_:=Am (Kd.R_elder' (by (with_reducible repeat (first|apply rA|apply rN|apply rD));exact (bQ HO446.out BK450.out (by decide) _ _ _ _)) (Kd.R_base ho0) hb);have n1_:=Am (Kd.R_lower (Kd.R_new' ho0 (Kd.R_lt (by (with_reducible repeat (first|apply rA|apply rN|apply rD));exact (bQ HO446.out BK450.out (by decide) _ _ _ _)))) (bU (by repeat (first|(with_reducible first|exact HB.out|apply bA|apply bN|apply bD|refine bS ?_ GE450.out)|exact HB.out))));have n2_:=Am (blk_below (g:=gb450) (o:=.cells #[.string t443, .slice Ao11 t444.length co11, .bool t447, .string t448] 25 (0,0)) (by refine bB ?_;apply bP;refine bB ?_;exact BK450.out) hb);have n3_:=Am (bT (by repeat (first|(with_reducible first|exact HB.out|apply bA|apply bN|apply bD|refine bS ?_ GE450.out)|exact HB.out)) hb);clear HO446 BK450 HB;have HO446:=n0_;have HO454:=n1_;have BK450:=n2_;have HB:=n3_;clear n0_ n1_ n2_ n3_;(try clear hb);(try clear ho0))|((with_reducible refine gate_dst (N:=6) rfl ?_);(try (refine gate_guard (by rfl) ?_;dsimp only));refine box_event ?hg (N:=6) ?hd (cs:=#[.string (⟨#[]⟩:ByteArray), .slice none 0 0, .bool false, .string (⟨#[]⟩:ByteArray)]) (t:=25) ?hr ?_;(case hd=>rfl);(case hg=>rfl);(case hr=>first|(go_simp;done)|(go_simp;rfl));intro gb458 hg w13 hbox hb;have n0_:=Am (Kd.R_below (bR HO446.out) hb);have n1_:=Am (Kd.R_below (bR HO454.out) hb);have n2_:=Am (blk_below (bB BK450.out) hb);have n3_:=Am (bT (by repeat (first|(with_reducible first|exact HB.out|apply bA|apply bN|apply bD|refine bS ?_ GE450.out)|exact HB.out)) hb);have n4_:=Am (hbox);have n5_:=Am ((by rw [hg];exact (bU (by repeat (first|(with_reducible first|exact HB.out|apply bA|apply bN|apply bD|refine bS ?_ GE450.out)|exact HB.out))):w.heap.size ≤ gb458));have n6_:=n5_;have n7_:=Am ((by rw [hg];exact Nat.ne_of_lt (blk_lt (bB BK450.out)):gb450 ≠ gb458));have n8_:=Am ((by rw [hg];exact Nat.ne_of_gt (blk_lt (bB BK450.out)):gb458 ≠ gb450));clear HO446 HO454 BK450 HB;have HO446:=n0_;have HO454:=n1_;have BK450:=n2_;have HB:=n3_;have BK458:=n4_;have GW458:=n5_;have GE458:=n6_;have NB450_458:=n7_;have NB458_450:=n8_;clear n0_ n1_ n2_ n3_ n4_ n5_ n6_ n7_ n8_ hb hbox hg;have hnb14:=NB458_450.out;have hnc14:=NB450_458.out;have hcz15_0:w13.cell? ⟨gb458,0,none⟩ = some (.string (⟨#[]⟩:ByteArray)):=(bL BK458.out 0).trans rfl;have hcz15_1:w13.cell? ⟨gb458,1,none⟩ = some (.slice none 0 0):=(bL BK458.out 1).trans rfl;have hcz15_2:w13.cell? ⟨gb458,2,none⟩ = some (.bool false):=(bL BK458.out 2).trans rfl;have hcz15_3:w13.cell? ⟨gb458,3,none⟩ = some (.string (⟨#[]⟩:ByteArray)):=(bL BK458.out 3).trans rfl;have hfz15_0:=bZ BK458.out 0;have hfz15_1:=bZ BK458.out 1;have hfz15_2:=bZ BK458.out 2;have hfz15_3:=bZ BK458.out 3;obtain ⟨Ao16,co16,eo16⟩:=Kd.R_slice HO454.out;subst eo16))
  (try simp only [Act.put,List.setIfInBounds_toArray,List.set_cons_zero,List.set_cons_succ])
  go_cut [50] (fun v50 wc=>∃ (kq:Nat) (x50_5:Bool),v50 = .bool x50_5 ∧ Aside0 (laws_FnAddrStroke.j0 kq t442 t449 t457 x50_5 t443 t444 t447 t448 t451 t452 t455 t456 = some r) ∧ Aside0 (kq ≤ k) ∧ Aside0 (Kd.R Kd.string 9 wc w.heap.size (fun k_=>some k_ ≠ ((.slice Ao16 t452.length co16):Value).ownBlock) (.slice Ao11 t444.length co11) t444) ∧ Aside0 (Kd.R Kd.string 9 wc w.heap.size (fun k_=>some k_ ≠ ((.slice Ao11 t444.length co11):Value).ownBlock) (.slice Ao16 t452.length co16) t452) ∧ Aside0 (wc.heap[gb450]? = some (.cells #[.string t443,(.slice Ao11 t444.length co11), .bool t447, .string t448] 25 (0,0))) ∧ Aside0 (wc.heap[gb458]? = some (.cells #[.string t451,(.slice Ao16 t452.length co16), .bool t455, .string t456] 25 (0,0))) ∧ Aside0 (Below w.heap.size w wc))
  case first =>
   have H:=HC6.out
   clear HC6
   by_cases c17:(t457 != t449) = true
   ·rw [if_pos c17] at H
    have c17b0:(t457 != t449) = true:=c17
    (try (have c17b1:decide (t457 = t449) = false:=by simpa using c17))
    (try (have c17b2:(t457 == t449) = false:=by simpa using c17))
    (try (have c17b3:¬ (t457 = t449):=by simpa using c17))
    clear c17
    (first|rw [c17b0]|(simp only [i64_w,i32_w];rw [c17b0])|skip)
    have H':=Am H
    clear H
    go_wp2
    go_meet
    case rel=>exact ⟨_,(true),(by first|rfl|(simp;done)|(simp only [i64_w,i32_w];done)|(simp only [i64_w,i32_w];rfl)|(simp [*];done)|(simp [emp_bne,emp_beq];done)),H',⟨by first|omega|exact Nat.le_refl _⟩,⟨by (with_reducible repeat (first|apply rA|apply rN|apply rD));exact Kd.R_mono (Kd.R_far (p:=⟨gb458,3,none⟩) (Kd.R_far (p:=⟨gb458,2,none⟩) (Kd.R_far (p:=⟨gb458,1,none⟩) (Kd.R_far (p:=⟨gb458,0,none⟩) (Kd.R_types HO446.out BK458.out (by decide)) (fun _ hk=>hk.2) (.string t451)) (fun _ hk=>hk.2) (.slice Ao16 t452.length co16)) (fun _ hk=>hk.2) (.bool t455)) (fun _ hk=>hk.2) (.string t456)) (fun _ hk=>hk.1.2)⟩,⟨by (with_reducible repeat (first|apply rA|apply rN|apply rD));exact Kd.R_mono (Kd.R_far (p:=⟨gb458,3,none⟩) (Kd.R_far (p:=⟨gb458,2,none⟩) (Kd.R_far (p:=⟨gb458,1,none⟩) (Kd.R_far (p:=⟨gb458,0,none⟩) (Kd.R_types HO454.out BK458.out (by decide)) (fun _ hk=>hk.2) (.string t451)) (fun _ hk=>hk.2) (.slice Ao16 t452.length co16)) (fun _ hk=>hk.2) (.bool t455)) (fun _ hk=>hk.2) (.string t456)) (fun _ hk=>hk.1.2)⟩,⟨by refine bB ?_;refine bF ?_ NB450_458.out;refine bB ?_;exact BK450.out⟩,⟨by refine bB ?_;apply bP;refine bB ?_;exact BK458.out⟩,⟨by repeat (first|(with_reducible first|exact HB.out|apply bA|apply bN|apply bD|refine bS ?_ GE450.out|refine bS ?_ GE458.out)|exact HB.out)⟩⟩
   ·rw [if_neg c17] at H
    have c17b0:(t457 != t449) = false:=by simpa using c17
    (try (have c17b1:decide (t457 = t449) = true:=by simpa using c17))
    (try (have c17b2:(t457 == t449) = true:=by simpa using c17))
    clear c17
    (first|rw [c17b0]|(simp only [i64_w,i32_w];rw [c17b0])|skip)
    replace H:=bI H
    obtain ⟨t459,A180,H⟩:=H
    replace H:(if t459 = true then (if t457 = true then ((laws_lpBare.f k t442).bind fun t460=>(if t460 = true then (laws_FnAddrStroke.j0 k t442 t449 t457 (decide ((wrap64 ((t442.size:Int) + 4)) > 60)) t443 t444 t447 t448 t451 t452 t455 t456) else (laws_FnAddrStroke.j0 k t442 t449 t457 true t443 t444 t447 t448 t451 t452 t455 t456))) else (laws_FnAddrStroke.j0 k t442 t449 t457 true t443 t444 t447 t448 t451 t452 t455 t456)) else (laws_FnAddrStroke.j0 k t442 t449 t457 true t443 t444 t447 t448 t451 t452 t455 t456)) = some r:=H
    have A18:=Am A180
    clear A180
    by_cases c19:t459 = true
    ·subst c19
     have H1:(if t457 = true then ((laws_lpBare.f k t442).bind fun t460=>(if t460 = true then (laws_FnAddrStroke.j0 k t442 t449 t457 (decide ((wrap64 ((t442.size:Int) + 4)) > 60)) t443 t444 t447 t448 t451 t452 t455 t456) else (laws_FnAddrStroke.j0 k t442 t449 t457 true t443 t444 t447 t448 t451 t452 t455 t456))) else (laws_FnAddrStroke.j0 k t442 t449 t457 true t443 t444 t447 t448 t451 t452 t455 t456)) = some r:=by rw [if_pos rfl] at H;exact H
     clear H
     have H:=H1
     clear H1
     by_cases c20:t457 = true
     ·subst c20
      have H1:((laws_lpBare.f k t442).bind fun t460=>(if t460 = true then (laws_FnAddrStroke.j0 k t442 t449 true (decide ((wrap64 ((t442.size:Int) + 4)) > 60)) t443 t444 t447 t448 t451 t452 t455 t456) else (laws_FnAddrStroke.j0 k t442 t449 true true t443 t444 t447 t448 t451 t452 t455 t456))) = some r:=by rw [if_pos rfl] at H;exact H
      clear H
      have H:=H1
      clear H1
      replace H:=bI H
      obtain ⟨t460,A210,H⟩:=H
      replace H:(if t460 = true then (laws_FnAddrStroke.j0 k t442 t449 true (decide ((wrap64 ((t442.size:Int) + 4)) > 60)) t443 t444 t447 t448 t451 t452 t455 t456) else (laws_FnAddrStroke.j0 k t442 t449 true true t443 t444 t447 t448 t451 t452 t455 t456)) = some r:=H
      have A21:=Am A210
      clear A210
      by_cases c22:t460 = true
      ·subst c22
       have H1:(laws_FnAddrStroke.j0 k t442 t449 true (decide ((wrap64 ((t442.size:Int) + 4)) > 60)) t443 t444 t447 t448 t451 t452 t455 t456) = some r:=by rw [if_pos rfl] at H;exact H
       clear H
       have H:=H1
       clear H1
       have H':=Am H
       clear H
       have hnb23:=NB458_450.out
       have hnc23:=NB450_458.out
       have hcz24_0:w13.cell? ⟨gb458,0,none⟩ = some (.string (⟨#[]⟩:ByteArray)):=(bL BK458.out 0).trans rfl
       have hcz24_1:w13.cell? ⟨gb458,1,none⟩ = some (.slice none 0 0):=(bL BK458.out 1).trans rfl
       have hcz24_2:w13.cell? ⟨gb458,2,none⟩ = some (.bool false):=(bL BK458.out 2).trans rfl
       have hcz24_3:w13.cell? ⟨gb458,3,none⟩ = some (.string (⟨#[]⟩:ByteArray)):=(bL BK458.out 3).trans rfl
       have hfz24_0:=bZ BK458.out 0
       have hfz24_1:=bZ BK458.out 1
       have hfz24_2:=bZ BK458.out 2
       have hfz24_3:=bZ BK458.out 3
       have hcz25_0:w13.cell? ⟨gb450,0,none⟩ = some (.string t443):=(bL BK450.out 0).trans rfl
       have hcz25_1:w13.cell? ⟨gb450,1,none⟩ = some (.slice Ao11 t444.length co11):=(bL BK450.out 1).trans rfl
       have hcz25_2:w13.cell? ⟨gb450,2,none⟩ = some (.bool t447):=(bL BK450.out 2).trans rfl
       have hcz25_3:w13.cell? ⟨gb450,3,none⟩ = some (.string t448):=(bL BK450.out 3).trans rfl
       have hfz25_0:=bZ BK450.out 0
       have hfz25_1:=bZ BK450.out 1
       have hfz25_2:=bZ BK450.out 2
       have hfz25_3:=bZ BK450.out 3
       go_wp2_with (first|(go_at_call 14;(with_reducible refine (laws_lpAddr.calls k t451 _ _ t452 t455 t456 t443 _ _ t444 t447 t448 true _ ?side1 ?side2 ?side3 ?side4 A18.out).mono ?_);(case side1=>refine (Kd.R_reads' (e:=9) (base:=w.heap.size) (ok:=fun k_=>(True ∧ some k_ ≠ (.slice Ao11 t444.length co11:Value).ownBlock)) (n:=t452.length) (c:=co16) ?_).2.2;exact (by (with_reducible repeat (first|apply rA|apply rN|apply rD));exact (bQ HO454.out BK458.out (by decide) _ _ _ _)));(case side2=>exact (Kd.R_reads' HO454.out).2.1);(case side3=>refine (Kd.R_reads' (e:=9) (base:=w.heap.size) (ok:=fun k_=>(True ∧ some k_ ≠ (.slice Ao16 t452.length co16:Value).ownBlock)) (n:=t444.length) (c:=co11) ?_).2.2;exact (by (with_reducible repeat (first|apply rA|apply rN|apply rD));exact (bQ HO446.out BK458.out (by decide) _ _ _ _)));(case side4=>exact (Kd.R_reads' HO446.out).2.1);rintro e w26 ⟨rfl,hb⟩;have n0_:=Am (Kd.R_below (by (with_reducible repeat (first|apply rA|apply rN|apply rD));exact (bQ HO446.out BK458.out (by decide) _ _ _ _)) hb);have n1_:=Am (Kd.R_below (by (with_reducible repeat (first|apply rA|apply rN|apply rD));exact (bQ HO454.out BK458.out (by decide) _ _ _ _)) hb);have n2_:=Am (blk_below (g:=gb450) (o:=.cells #[.string t443, .slice Ao11 t444.length co11, .bool t447, .string t448] 25 (0,0)) (by refine bB ?_;refine bF ?_ NB450_458.out;refine bB ?_;exact BK450.out) hb);have n3_:=Am (blk_below (g:=gb458) (o:=.cells #[.string t451, .slice Ao16 t452.length co16, .bool t455, .string t456] 25 (0,0)) (by refine bB ?_;apply bP;refine bB ?_;exact BK458.out) hb);have n4_:=Am (bT (by repeat (first|(with_reducible first|exact HB.out|apply bA|apply bN|apply bD|refine bS ?_ GE450.out|refine bS ?_ GE458.out)|exact HB.out)) hb);clear HO446 HO454 BK450 BK458 HB;have HO446:=n0_;have HO454:=n1_;have BK450:=n2_;have BK458:=n3_;have HB:=n4_;clear n0_ n1_ n2_ n3_ n4_;(try clear hb))|(go_at_call 27;(with_reducible refine (laws_lpBare.calls k t442 true _ A21.out).mono ?_);rintro e w' ⟨rfl,⟨nd,rfl⟩⟩))
       go_meet
       case rel=>exact ⟨_,(decide ((wrap64 ((t442.size:Int) + 4)) > 60)),(by first|rfl|(simp;done)|(simp only [i64_w,i32_w];done)|(simp only [i64_w,i32_w];rfl)|(simp [*];done)|(simp [emp_bne,emp_beq];done)),H',⟨by first|omega|exact Nat.le_refl _⟩,⟨by (with_reducible repeat (first|apply rA|apply rN|apply rD));exact Kd.R_mono HO446.out (fun _ hk=>hk.2)⟩,⟨by (with_reducible repeat (first|apply rA|apply rN|apply rD));exact Kd.R_mono HO454.out (fun _ hk=>hk.2)⟩,⟨by refine bB ?_;exact BK450.out⟩,⟨by refine bB ?_;exact BK458.out⟩,⟨by repeat (first|(with_reducible first|exact HB.out|apply bA|apply bN|apply bD|refine bS ?_ GE450.out|refine bS ?_ GE458.out)|exact HB.out)⟩⟩
      ·replace c22:=Bool.eq_false_iff.mpr c22
       subst c22
       have H1:(laws_FnAddrStroke.j0 k t442 t449 true true t443 t444 t447 t448 t451 t452 t455 t456) = some r:=by rw [if_neg (show ¬ (false = true) by decide)] at H;exact H
       clear H
       have H:=H1
       clear H1
       have H':=Am H
       clear H
       have hnb27:=NB458_450.out
       have hnc27:=NB450_458.out
       have hcz28_0:w13.cell? ⟨gb458,0,none⟩ = some (.string (⟨#[]⟩:ByteArray)):=(bL BK458.out 0).trans rfl
       have hcz28_1:w13.cell? ⟨gb458,1,none⟩ = some (.slice none 0 0):=(bL BK458.out 1).trans rfl
       have hcz28_2:w13.cell? ⟨gb458,2,none⟩ = some (.bool false):=(bL BK458.out 2).trans rfl
       have hcz28_3:w13.cell? ⟨gb458,3,none⟩ = some (.string (⟨#[]⟩:ByteArray)):=(bL BK458.out 3).trans rfl
       have hfz28_0:=bZ BK458.out 0
       have hfz28_1:=bZ BK458.out 1
       have hfz28_2:=bZ BK458.out 2
       have hfz28_3:=bZ BK458.out 3
       have hcz29_0:w13.cell? ⟨gb450,0,none⟩ = some (.string t443):=(bL BK450.out 0).trans rfl
       have hcz29_1:w13.cell? ⟨gb450,1,none⟩ = some (.slice Ao11 t444.length co11):=(bL BK450.out 1).trans rfl
       have hcz29_2:w13.cell? ⟨gb450,2,none⟩ = some (.bool t447):=(bL BK450.out 2).trans rfl
       have hcz29_3:w13.cell? ⟨gb450,3,none⟩ = some (.string t448):=(bL BK450.out 3).trans rfl
       have hfz29_0:=bZ BK450.out 0
       have hfz29_1:=bZ BK450.out 1
       have hfz29_2:=bZ BK450.out 2
       have hfz29_3:=bZ BK450.out 3
       go_wp2_with (first|(go_at_call 14;(with_reducible refine (laws_lpAddr.calls k t451 _ _ t452 t455 t456 t443 _ _ t444 t447 t448 true _ ?side1 ?side2 ?side3 ?side4 A18.out).mono ?_);(case side1=>refine (Kd.R_reads' (e:=9) (base:=w.heap.size) (ok:=fun k_=>(True ∧ some k_ ≠ (.slice Ao11 t444.length co11:Value).ownBlock)) (n:=t452.length) (c:=co16) ?_).2.2;exact (by (with_reducible repeat (first|apply rA|apply rN|apply rD));exact (bQ HO454.out BK458.out (by decide) _ _ _ _)));(case side2=>exact (Kd.R_reads' HO454.out).2.1);(case side3=>refine (Kd.R_reads' (e:=9) (base:=w.heap.size) (ok:=fun k_=>(True ∧ some k_ ≠ (.slice Ao16 t452.length co16:Value).ownBlock)) (n:=t444.length) (c:=co11) ?_).2.2;exact (by (with_reducible repeat (first|apply rA|apply rN|apply rD));exact (bQ HO446.out BK458.out (by decide) _ _ _ _)));(case side4=>exact (Kd.R_reads' HO446.out).2.1);rintro e w30 ⟨rfl,hb⟩;have n0_:=Am (Kd.R_below (by (with_reducible repeat (first|apply rA|apply rN|apply rD));exact (bQ HO446.out BK458.out (by decide) _ _ _ _)) hb);have n1_:=Am (Kd.R_below (by (with_reducible repeat (first|apply rA|apply rN|apply rD));exact (bQ HO454.out BK458.out (by decide) _ _ _ _)) hb);have n2_:=Am (blk_below (g:=gb450) (o:=.cells #[.string t443, .slice Ao11 t444.length co11, .bool t447, .string t448] 25 (0,0)) (by refine bB ?_;refine bF ?_ NB450_458.out;refine bB ?_;exact BK450.out) hb);have n3_:=Am (blk_below (g:=gb458) (o:=.cells #[.string t451, .slice Ao16 t452.length co16, .bool t455, .string t456] 25 (0,0)) (by refine bB ?_;apply bP;refine bB ?_;exact BK458.out) hb);have n4_:=Am (bT (by repeat (first|(with_reducible first|exact HB.out|apply bA|apply bN|apply bD|refine bS ?_ GE450.out|refine bS ?_ GE458.out)|exact HB.out)) hb);clear HO446 HO454 BK450 BK458 HB;have HO446:=n0_;have HO454:=n1_;have BK450:=n2_;have BK458:=n3_;have HB:=n4_;clear n0_ n1_ n2_ n3_ n4_;(try clear hb))|(go_at_call 27;(with_reducible refine (laws_lpBare.calls k t442 false _ A21.out).mono ?_);rintro e w' ⟨rfl,⟨nd,rfl⟩⟩))
       go_meet
       case rel=>exact ⟨_,(true),(by first|rfl|(simp;done)|(simp only [i64_w,i32_w];done)|(simp only [i64_w,i32_w];rfl)|(simp [*];done)|(simp [emp_bne,emp_beq];done)),H',⟨by first|omega|exact Nat.le_refl _⟩,⟨by (with_reducible repeat (first|apply rA|apply rN|apply rD));exact Kd.R_mono HO446.out (fun _ hk=>hk.2)⟩,⟨by (with_reducible repeat (first|apply rA|apply rN|apply rD));exact Kd.R_mono HO454.out (fun _ hk=>hk.2)⟩,⟨by refine bB ?_;exact BK450.out⟩,⟨by refine bB ?_;exact BK458.out⟩,⟨by repeat (first|(with_reducible first|exact HB.out|apply bA|apply bN|apply bD|refine bS ?_ GE450.out|refine bS ?_ GE458.out)|exact HB.out)⟩⟩
     ·replace c20:=Bool.eq_false_iff.mpr c20
      subst c20
      have H1:(laws_FnAddrStroke.j0 k t442 t449 false true t443 t444 t447 t448 t451 t452 t455 t456) = some r:=by rw [if_neg (show ¬ (false = true) by decide)] at H;exact H
      clear H
      have H:=H1
      clear H1
      have H':=Am H
      clear H
      have hnb31:=NB458_450.out
      have hnc31:=NB450_458.out
      have hcz32_0:w13.cell? ⟨gb458,0,none⟩ = some (.string (⟨#[]⟩:ByteArray)):=(bL BK458.out 0).trans rfl
      have hcz32_1:w13.cell? ⟨gb458,1,none⟩ = some (.slice none 0 0):=(bL BK458.out 1).trans rfl
      have hcz32_2:w13.cell? ⟨gb458,2,none⟩ = some (.bool false):=(bL BK458.out 2).trans rfl
      have hcz32_3:w13.cell? ⟨gb458,3,none⟩ = some (.string (⟨#[]⟩:ByteArray)):=(bL BK458.out 3).trans rfl
      have hfz32_0:=bZ BK458.out 0
      have hfz32_1:=bZ BK458.out 1
      have hfz32_2:=bZ BK458.out 2
      have hfz32_3:=bZ BK458.out 3
      have hcz33_0:w13.cell? ⟨gb450,0,none⟩ = some (.string t443):=(bL BK450.out 0).trans rfl
      have hcz33_1:w13.cell? ⟨gb450,1,none⟩ = some (.slice Ao11 t444.length co11):=(bL BK450.out 1).trans rfl
      have hcz33_2:w13.cell? ⟨gb450,2,none⟩ = some (.bool t447):=(bL BK450.out 2).trans rfl
      have hcz33_3:w13.cell? ⟨gb450,3,none⟩ = some (.string t448):=(bL BK450.out 3).trans rfl
      have hfz33_0:=bZ BK450.out 0
      have hfz33_1:=bZ BK450.out 1
      have hfz33_2:=bZ BK450.out 2
      have hfz33_3:=bZ BK450.out 3
      go_wp2_with (first|(go_at_call 14;(with_reducible refine (laws_lpAddr.calls k t451 _ _ t452 t455 t456 t443 _ _ t444 t447 t448 true _ ?side1 ?side2 ?side3 ?side4 A18.out).mono ?_);(case side1=>refine (Kd.R_reads' (e:=9) (base:=w.heap.size) (ok:=fun k_=>(True ∧ some k_ ≠ (.slice Ao11 t444.length co11:Value).ownBlock)) (n:=t452.length) (c:=co16) ?_).2.2;exact (by (with_reducible repeat (first|apply rA|apply rN|apply rD));exact (bQ HO454.out BK458.out (by decide) _ _ _ _)));(case side2=>exact (Kd.R_reads' HO454.out).2.1);(case side3=>refine (Kd.R_reads' (e:=9) (base:=w.heap.size) (ok:=fun k_=>(True ∧ some k_ ≠ (.slice Ao16 t452.length co16:Value).ownBlock)) (n:=t444.length) (c:=co11) ?_).2.2;exact (by (with_reducible repeat (first|apply rA|apply rN|apply rD));exact (bQ HO446.out BK458.out (by decide) _ _ _ _)));(case side4=>exact (Kd.R_reads' HO446.out).2.1);rintro e w34 ⟨rfl,hb⟩;have n0_:=Am (Kd.R_below (by (with_reducible repeat (first|apply rA|apply rN|apply rD));exact (bQ HO446.out BK458.out (by decide) _ _ _ _)) hb);have n1_:=Am (Kd.R_below (by (with_reducible repeat (first|apply rA|apply rN|apply rD));exact (bQ HO454.out BK458.out (by decide) _ _ _ _)) hb);have n2_:=Am (blk_below (g:=gb450) (o:=.cells #[.string t443, .slice Ao11 t444.length co11, .bool t447, .string t448] 25 (0,0)) (by refine bB ?_;refine bF ?_ NB450_458.out;refine bB ?_;exact BK450.out) hb);have n3_:=Am (blk_below (g:=gb458) (o:=.cells #[.string t451, .slice Ao16 t452.length co16, .bool t455, .string t456] 25 (0,0)) (by refine bB ?_;apply bP;refine bB ?_;exact BK458.out) hb);have n4_:=Am (bT (by repeat (first|(with_reducible first|exact HB.out|apply bA|apply bN|apply bD|refine bS ?_ GE450.out|refine bS ?_ GE458.out)|exact HB.out)) hb);clear HO446 HO454 BK450 BK458 HB;have HO446:=n0_;have HO454:=n1_;have BK450:=n2_;have BK458:=n3_;have HB:=n4_;clear n0_ n1_ n2_ n3_ n4_;(try clear hb)))
      go_meet
      case rel=>exact ⟨_,(true),(by first|rfl|(simp;done)|(simp only [i64_w,i32_w];done)|(simp only [i64_w,i32_w];rfl)|(simp [*];done)|(simp [emp_bne,emp_beq];done)),H',⟨by first|omega|exact Nat.le_refl _⟩,⟨by (with_reducible repeat (first|apply rA|apply rN|apply rD));exact Kd.R_mono HO446.out (fun _ hk=>hk.2)⟩,⟨by (with_reducible repeat (first|apply rA|apply rN|apply rD));exact Kd.R_mono HO454.out (fun _ hk=>hk.2)⟩,⟨by refine bB ?_;exact BK450.out⟩,⟨by refine bB ?_;exact BK458.out⟩,⟨by repeat (first|(with_reducible first|exact HB.out|apply bA|apply bN|apply bD|refine bS ?_ GE450.out|refine bS ?_ GE458.out)|exact HB.out)⟩⟩
    ·replace c19:=Bool.eq_false_iff.mpr c19
     subst c19
     have H1:(laws_FnAddrStroke.j0 k t442 t449 t457 true t443 t444 t447 t448 t451 t452 t455 t456) = some r:=by rw [if_neg (show ¬ (false = true) by decide)] at H;exact H
     clear H
     have H:=H1
     clear H1
     have H':=Am H
     clear H
     have hnb35:=NB458_450.out
     have hnc35:=NB450_458.out
     have hcz36_0:w13.cell? ⟨gb458,0,none⟩ = some (.string (⟨#[]⟩:ByteArray)):=(bL BK458.out 0).trans rfl
     have hcz36_1:w13.cell? ⟨gb458,1,none⟩ = some (.slice none 0 0):=(bL BK458.out 1).trans rfl
     have hcz36_2:w13.cell? ⟨gb458,2,none⟩ = some (.bool false):=(bL BK458.out 2).trans rfl
     have hcz36_3:w13.cell? ⟨gb458,3,none⟩ = some (.string (⟨#[]⟩:ByteArray)):=(bL BK458.out 3).trans rfl
     have hfz36_0:=bZ BK458.out 0
     have hfz36_1:=bZ BK458.out 1
     have hfz36_2:=bZ BK458.out 2
     have hfz36_3:=bZ BK458.out 3
     have hcz37_0:w13.cell? ⟨gb450,0,none⟩ = some (.string t443):=(bL BK450.out 0).trans rfl
     have hcz37_1:w13.cell? ⟨gb450,1,none⟩ = some (.slice Ao11 t444.length co11):=(bL BK450.out 1).trans rfl
     have hcz37_2:w13.cell? ⟨gb450,2,none⟩ = some (.bool t447):=(bL BK450.out 2).trans rfl
     have hcz37_3:w13.cell? ⟨gb450,3,none⟩ = some (.string t448):=(bL BK450.out 3).trans rfl
     have hfz37_0:=bZ BK450.out 0
     have hfz37_1:=bZ BK450.out 1
     have hfz37_2:=bZ BK450.out 2
     have hfz37_3:=bZ BK450.out 3
     go_wp2_with (first|(go_at_call 14;(with_reducible refine (laws_lpAddr.calls k t451 _ _ t452 t455 t456 t443 _ _ t444 t447 t448 false _ ?side1 ?side2 ?side3 ?side4 A18.out).mono ?_);(case side1=>refine (Kd.R_reads' (e:=9) (base:=w.heap.size) (ok:=fun k_=>(True ∧ some k_ ≠ (.slice Ao11 t444.length co11:Value).ownBlock)) (n:=t452.length) (c:=co16) ?_).2.2;exact (by (with_reducible repeat (first|apply rA|apply rN|apply rD));exact (bQ HO454.out BK458.out (by decide) _ _ _ _)));(case side2=>exact (Kd.R_reads' HO454.out).2.1);(case side3=>refine (Kd.R_reads' (e:=9) (base:=w.heap.size) (ok:=fun k_=>(True ∧ some k_ ≠ (.slice Ao16 t452.length co16:Value).ownBlock)) (n:=t444.length) (c:=co11) ?_).2.2;exact (by (with_reducible repeat (first|apply rA|apply rN|apply rD));exact (bQ HO446.out BK458.out (by decide) _ _ _ _)));(case side4=>exact (Kd.R_reads' HO446.out).2.1);rintro e w38 ⟨rfl,hb⟩;have n0_:=Am (Kd.R_below (by (with_reducible repeat (first|apply rA|apply rN|apply rD));exact (bQ HO446.out BK458.out (by decide) _ _ _ _)) hb);have n1_:=Am (Kd.R_below (by (with_reducible repeat (first|apply rA|apply rN|apply rD));exact (bQ HO454.out BK458.out (by decide) _ _ _ _)) hb);have n2_:=Am (blk_below (g:=gb450) (o:=.cells #[.string t443, .slice Ao11 t444.length co11, .bool t447, .string t448] 25 (0,0)) (by refine bB ?_;refine bF ?_ NB450_458.out;refine bB ?_;exact BK450.out) hb);have n3_:=Am (blk_below (g:=gb458) (o:=.cells #[.string t451, .slice Ao16 t452.length co16, .bool t455, .string t456] 25 (0,0)) (by refine bB ?_;apply bP;refine bB ?_;exact BK458.out) hb);have n4_:=Am (bT (by repeat (first|(with_reducible first|exact HB.out|apply bA|apply bN|apply bD|refine bS ?_ GE450.out|refine bS ?_ GE458.out)|exact HB.out)) hb);clear HO446 HO454 BK450 BK458 HB;have HO446:=n0_;have HO454:=n1_;have BK450:=n2_;have BK458:=n3_;have HB:=n4_;clear n0_ n1_ n2_ n3_ n4_;(try clear hb)))
     go_meet
     case rel=>exact ⟨_,(true),(by first|rfl|(simp;done)|(simp only [i64_w,i32_w];done)|(simp only [i64_w,i32_w];rfl)|(simp [*];done)|(simp [emp_bne,emp_beq];done)),H',⟨by first|omega|exact Nat.le_refl _⟩,⟨by (with_reducible repeat (first|apply rA|apply rN|apply rD));exact Kd.R_mono HO446.out (fun _ hk=>hk.2)⟩,⟨by (with_reducible repeat (first|apply rA|apply rN|apply rD));exact Kd.R_mono HO454.out (fun _ hk=>hk.2)⟩,⟨by refine bB ?_;exact BK450.out⟩,⟨by refine bB ?_;exact BK458.out⟩,⟨by repeat (first|(with_reducible first|exact HB.out|apply bA|apply bN|apply bD|refine bS ?_ GE450.out|refine bS ?_ GE458.out)|exact HB.out)⟩⟩
  case rest =>
   clear HC6
   try clear c1
   try clear c2
   try clear c2b0
   try clear c2b1
   try clear p2
   try clear c3
   try clear c6
   try clear p6
   try clear c14
   try clear c17
   try clear c17b0
   try clear c17b1
   try clear c17b2
   try clear c19
   try clear c20
   try clear c22
   try clear c23
   try clear c24
   try clear c25
   try clear c26
   try clear c27
   try clear c31
   try clear c35
   try clear hcz10_0
   try clear hcz10_1
   try clear hcz10_2
   try clear hcz10_3
   try clear hcz15_0
   try clear hcz15_1
   try clear hcz15_2
   try clear hcz15_3
   try clear hcz24_0
   try clear hcz24_1
   try clear hcz24_2
   try clear hcz24_3
   try clear hcz25_0
   try clear hcz25_1
   try clear hcz25_2
   try clear hcz25_3
   try clear hcz28_0
   try clear hcz28_1
   try clear hcz28_2
   try clear hcz28_3
   try clear hcz29_0
   try clear hcz29_1
   try clear hcz29_2
   try clear hcz29_3
   try clear hcz32_0
   try clear hcz32_1
   try clear hcz32_2
   try clear hcz32_3
   try clear hcz33_0
   try clear hcz33_1
   try clear hcz33_2
   try clear hcz33_3
   try clear hcz36_0
   try clear hcz36_1
   try clear hcz36_2
   try clear hcz36_3
   try clear hcz37_0
   try clear hcz37_1
   try clear hcz37_2
   try clear hcz37_3
   try clear hfz10_0
   try clear hfz10_1
   try clear hfz10_2
   try clear hfz10_3
   try clear hfz15_0
   try clear hfz15_1
   try clear hfz15_2
   try clear hfz15_3
   try clear hfz24_0
   try clear hfz24_1
   try clear hfz24_2
   try clear hfz24_3
   try clear hfz25_0
   try clear hfz25_1
   try clear hfz25_2
   try clear hfz25_3
   try clear hfz28_0
   try clear hfz28_1
   try clear hfz28_2
   try clear hfz28_3
   try clear hfz29_0
   try clear hfz29_1
   try clear hfz29_2
   try clear hfz29_3
   try clear hfz32_0
   try clear hfz32_1
   try clear hfz32_2
   try clear hfz32_3
   try clear hfz33_0
   try clear hfz33_1
   try clear hfz33_2
   try clear hfz33_3
   try clear hfz36_0
   try clear hfz36_1
   try clear hfz36_2
   try clear hfz36_3
   try clear hfz37_0
   try clear hfz37_1
   try clear hfz37_2
   try clear hfz37_3
   obtain ⟨kq,x50_5,rfl,HA,HJ5,HO_451001,HO_459001,BK450,BK458,HB⟩:=hcut
   cases kq with
   | zero=>exact absurd HA.out (by simp [laws_FnAddrStroke.j0])
   | succ kj5 =>
    have H:=HA.out
    clear HA
    simp only [laws_FnAddrStroke.j0] at H
    by_cases c39:x50_5 = true
    ·subst c39
     have H1:(if (t457 == t449) = true then ((laws_lpAddr.f kj5 t451 t452 t455 t456 t443 t444 t447 t448).bind fun t461=>(some t461)) else (some false)) = some r:=by rw [if_pos rfl] at H;exact H
     clear H
     have H:=H1
     clear H1
     by_cases c40:(t457 == t449) = true
     ·rw [if_pos c40] at H
      have c40b0:(t457 == t449) = true:=c40
      (try (have c40b1:decide (t457 = t449) = true:=by simpa using c40))
      (try (have c40b2:(t457 == t449) = true:=by simpa using c40))
      clear c40
      replace H:=bI H
      obtain ⟨t461,A410,H⟩:=H
      replace H:(some t461) = some r:=H
      have A41:=Am A410
      clear A410
      obtain rfl:=Option.some.inj H
      have hnb42:=NB458_450.out
      have hnc42:=NB450_458.out
      have hcz43_0:wc.cell? ⟨gb458,0,none⟩ = some (.string t451):=(bL BK458.out 0).trans rfl
      have hcz43_1:wc.cell? ⟨gb458,1,none⟩ = some (.slice Ao16 t452.length co16):=(bL BK458.out 1).trans rfl
      have hcz43_2:wc.cell? ⟨gb458,2,none⟩ = some (.bool t455):=(bL BK458.out 2).trans rfl
      have hcz43_3:wc.cell? ⟨gb458,3,none⟩ = some (.string t456):=(bL BK458.out 3).trans rfl
      have hfz43_0:=bZ BK458.out 0
      have hfz43_1:=bZ BK458.out 1
      have hfz43_2:=bZ BK458.out 2
      have hfz43_3:=bZ BK458.out 3
      have hcz44_0:wc.cell? ⟨gb450,0,none⟩ = some (.string t443):=(bL BK450.out 0).trans rfl
      have hcz44_1:wc.cell? ⟨gb450,1,none⟩ = some (.slice Ao11 t444.length co11):=(bL BK450.out 1).trans rfl
      have hcz44_2:wc.cell? ⟨gb450,2,none⟩ = some (.bool t447):=(bL BK450.out 2).trans rfl
      have hcz44_3:wc.cell? ⟨gb450,3,none⟩ = some (.string t448):=(bL BK450.out 3).trans rfl
      have hfz44_0:=bZ BK450.out 0
      have hfz44_1:=bZ BK450.out 1
      have hfz44_2:=bZ BK450.out 2
      have hfz44_3:=bZ BK450.out 3
      go_wp2_with (first|(go_at_call 14;(with_reducible refine (laws_lpAddr.calls kj5 t451 _ _ t452 t455 t456 t443 _ _ t444 t447 t448 t461 _ ?side1 ?side2 ?side3 ?side4 A41.out).mono ?_);(case side1=>repeat (first|exact (Kd.R_reads' HO_459001.out).2.2|(with_reducible refine bC ?_)));(case side2=>exact (Kd.R_reads' HO_459001.out).2.1);(case side3=>repeat (first|exact (Kd.R_reads' HO_451001.out).2.2|(with_reducible refine bC ?_)));(case side4=>exact (Kd.R_reads' HO_451001.out).2.1);rintro e w45 ⟨rfl,hb⟩;have n0_:=Am (Kd.R_below (bR HO_451001.out) hb);have n1_:=Am (Kd.R_below (bR HO_459001.out) hb);have n2_:=Am (blk_below (bB BK450.out) hb);have n3_:=Am (blk_below (bB BK458.out) hb);have n4_:=Am (bT (by repeat (first|(with_reducible first|exact HB.out|apply bA|apply bN|apply bD|refine bS ?_ GE450.out|refine bS ?_ GE458.out)|exact HB.out)) hb);clear HO_451001 HO_459001 BK450 BK458 HB;have HO_451001:=n0_;have HO_459001:=n1_;have BK450:=n2_;have BK458:=n3_;have HB:=n4_;clear n0_ n1_ n2_ n3_ n4_;(try clear hb)))
      go_ret
      exact ⟨by first|rfl|(simp <;> rfl)|(simp [*] <;> rfl),by repeat (first|(with_reducible first|exact HB.out|apply bA|apply bN|apply bD|refine bS ?_ GE450.out|refine bS ?_ GE458.out)|exact HB.out)⟩
     ·rw [if_neg c40] at H
      have c40b0:(t457 == t449) = false:=by simpa using c40
      (try (have c40b1:decide (t457 = t449) = false:=by simpa using c40))
      (try (have c40b2:(t457 == t449) = false:=by simpa using c40))
      (try (have c40b3:¬ (t457 = t449):=by simpa using c40))
      clear c40
      obtain rfl:=Option.some.inj H
      go_wp2
      go_ret
      exact ⟨by first|rfl|(simp <;> rfl)|(simp [*] <;> rfl),by repeat (first|(with_reducible first|exact HB.out|apply bA|apply bN|apply bD|refine bS ?_ GE450.out|refine bS ?_ GE458.out)|exact HB.out)⟩
    ·replace c39:=Bool.eq_false_iff.mpr c39
     subst c39
     have H1:(if t442.size + 1 ≤ 9223372036854775807 then ((impl_AddrRead.f kj5 (t442 ++ (⟨#[47]⟩:ByteArray))).bind fun bt462=>(if t442.size + 3 ≤ 9223372036854775807 then ((impl_AddrRead.f kj5 (t442 ++ (⟨#[47,46,47]⟩:ByteArray))).bind fun bt470=>(if bt462.2.2.2.2 = true then ((laws_lpAddr.f kj5 bt462.1 bt462.2.1 bt462.2.2.1 bt462.2.2.2.1 t451 t452 t455 t456).bind fun t478=>(if t478 = true then (if bt470.2.2.2.2 = true then ((laws_lpAddr.f kj5 bt470.1 bt470.2.1 bt470.2.2.1 bt470.2.2.2.1 t451 t452 t455 t456).bind fun t479=>(some t479)) else (some false)) else (some false))) else (some false))) else (none))) else (none)) = some r:=by rw [if_neg (show ¬ (false = true) by decide)] at H;exact H
     clear H
     have H:=H1
     clear H1
     by_cases c46:t442.size + 1 ≤ 9223372036854775807
     ·rw [if_pos c46] at H
      have c46b0:=eq_true c46
      have c46b1:=decide_eq_true c46
      try have c46b2:(9223372036854775807 < t442.size + 1) = False:=eq_false (Nat.not_lt.2 c46)
      replace H:=bI H
      obtain ⟨⟨t462,t463,t466,t467,t468⟩,A470,H⟩:=H
      replace H:(if t442.size + 3 ≤ 9223372036854775807 then ((impl_AddrRead.f kj5 (t442 ++ (⟨#[47,46,47]⟩:ByteArray))).bind fun bt470=>(if t468 = true then ((laws_lpAddr.f kj5 t462 t463 t466 t467 t451 t452 t455 t456).bind fun t478=>(if t478 = true then (if bt470.2.2.2.2 = true then ((laws_lpAddr.f kj5 bt470.1 bt470.2.1 bt470.2.2.1 bt470.2.2.2.1 t451 t452 t455 t456).bind fun t479=>(some t479)) else (some false)) else (some false))) else (some false))) else (none)) = some r:=H
      have A47:=Am A470
      clear A470
      by_cases c48:t442.size + 3 ≤ 9223372036854775807
      ·rw [if_pos c48] at H
       have c48b0:=eq_true c48
       have c48b1:=decide_eq_true c48
       try have c48b2:(9223372036854775807 < t442.size + 3) = False:=eq_false (Nat.not_lt.2 c48)
       replace H:=bI H
       obtain ⟨⟨t470,t471,t474,t475,t476⟩,A490,H⟩:=H
       replace H:(if t468 = true then ((laws_lpAddr.f kj5 t462 t463 t466 t467 t451 t452 t455 t456).bind fun t478=>(if t478 = true then (if t476 = true then ((laws_lpAddr.f kj5 t470 t471 t474 t475 t451 t452 t455 t456).bind fun t479=>(some t479)) else (some false)) else (some false))) else (some false)) = some r:=H
       have A49:=Am A490
       clear A490
       by_cases c50:t468 = true
       ·subst c50
        have H1:((laws_lpAddr.f kj5 t462 t463 t466 t467 t451 t452 t455 t456).bind fun t478=>(if t478 = true then (if t476 = true then ((laws_lpAddr.f kj5 t470 t471 t474 t475 t451 t452 t455 t456).bind fun t479=>(some t479)) else (some false)) else (some false))) = some r:=by rw [if_pos rfl] at H;exact H
        clear H
        have H:=H1
        clear H1
        replace H:=bI H
        obtain ⟨t478,A510,H⟩:=H
        replace H:(if t478 = true then (if t476 = true then ((laws_lpAddr.f kj5 t470 t471 t474 t475 t451 t452 t455 t456).bind fun t479=>(some t479)) else (some false)) else (some false)) = some r:=H
        have A51:=Am A510
        clear A510
        by_cases c52:t478 = true
        ·subst c52
         have H1:(if t476 = true then ((laws_lpAddr.f kj5 t470 t471 t474 t475 t451 t452 t455 t456).bind fun t479=>(some t479)) else (some false)) = some r:=by rw [if_pos rfl] at H;exact H
         clear H
         have H:=H1
         clear H1
         by_cases c53:t476 = true
         ·subst c53
          have H1:((laws_lpAddr.f kj5 t470 t471 t474 t475 t451 t452 t455 t456).bind fun t479=>(some t479)) = some r:=by rw [if_pos rfl] at H;exact H
          clear H
          have H:=H1
          clear H1
          replace H:=bI H
          obtain ⟨t479,A540,H⟩:=H
          replace H:(some t479) = some r:=H
          have A54:=Am A540
          clear A540
          obtain rfl:=Option.some.inj H
          go_wp2_with (first|((with_reducible refine gate_callee (f:=26) rfl ?_);refine goesL_ (some 62) rfl rfl Tryd.func26 (by kernel_rfl) rfl #[.string (t442 ++ (⟨#[47]⟩:ByteArray))] rfl (aE1 rfl) ?_;(with_reducible refine (impl_AddrRead.calls kj5 (t442 ++ (⟨#[47]⟩:ByteArray)) t462 t463 t466 t467 true _ A47.out).mono ?_);rintro e w55 ⟨v464,rfl,ho0,hb⟩;refine ⟨_,rfl,?_⟩;have n0_:=Am (Kd.R_elder' (bR HO_451001.out) (Kd.R_base ho0) hb);have n1_:=Am (Kd.R_elder' (bR HO_459001.out) (Kd.R_base ho0) hb);have n2_:=Am (Kd.R_lower (Kd.R_new' (Kd.R_new' ho0 (Kd.R_lt (bR HO_451001.out))) (Kd.R_lt (bR HO_459001.out))) (bU (by repeat (first|(with_reducible first|exact HB.out|apply bA|apply bN|apply bD|refine bS ?_ GE450.out|refine bS ?_ GE458.out)|exact HB.out))));have n3_:=Am (blk_below (bB BK450.out) hb);have n4_:=Am (blk_below (bB BK458.out) hb);have n5_:=Am (bT (by repeat (first|(with_reducible first|exact HB.out|apply bA|apply bN|apply bD|refine bS ?_ GE450.out|refine bS ?_ GE458.out)|exact HB.out)) hb);clear HO_451001 HO_459001 BK450 BK458 HB;have HO_451001:=n0_;have HO_459001:=n1_;have HO465:=n2_;have BK450:=n3_;have BK458:=n4_;have HB:=n5_;clear n0_ n1_ n2_ n3_ n4_ n5_;(try clear hb);(try clear ho0))|((with_reducible refine gate_dst (N:=8) rfl ?_);(try (refine gate_guard (by rfl) ?_;dsimp only));refine box_event ?hg (N:=8) ?hd (cs:=#[.string (⟨#[]⟩:ByteArray), .slice none 0 0, .bool false, .string (⟨#[]⟩:ByteArray)]) (t:=25) ?hr ?_;(case hd=>rfl);(case hg=>rfl);(case hr=>first|(go_simp;done)|(go_simp;rfl));intro gb469 hg w56 hbox hb;have n0_:=Am (Kd.R_below (bR HO_451001.out) hb);have n1_:=Am (Kd.R_below (bR HO_459001.out) hb);have n2_:=Am (Kd.R_below (bR HO465.out) hb);have n3_:=Am (blk_below (bB BK450.out) hb);have n4_:=Am (blk_below (bB BK458.out) hb);have n5_:=Am (bT (by repeat (first|(with_reducible first|exact HB.out|apply bA|apply bN|apply bD|refine bS ?_ GE450.out|refine bS ?_ GE458.out)|exact HB.out)) hb);have n6_:=Am (hbox);have n7_:=Am ((by rw [hg];exact (bU (by repeat (first|(with_reducible first|exact HB.out|apply bA|apply bN|apply bD|refine bS ?_ GE450.out|refine bS ?_ GE458.out)|exact HB.out))):w.heap.size ≤ gb469));have n8_:=n7_;have n9_:=Am ((by rw [hg];exact Nat.ne_of_lt (blk_lt (bB BK450.out)):gb450 ≠ gb469));have n10_:=Am ((by rw [hg];exact Nat.ne_of_gt (blk_lt (bB BK450.out)):gb469 ≠ gb450));have n11_:=Am ((by rw [hg];exact Nat.ne_of_lt (blk_lt (bB BK458.out)):gb458 ≠ gb469));have n12_:=Am ((by rw [hg];exact Nat.ne_of_gt (blk_lt (bB BK458.out)):gb469 ≠ gb458));clear HO_451001 HO_459001 HO465 BK450 BK458 HB;have HO_451001:=n0_;have HO_459001:=n1_;have HO465:=n2_;have BK450:=n3_;have BK458:=n4_;have HB:=n5_;have BK469:=n6_;have GW469:=n7_;have GE469:=n8_;have NB450_469:=n9_;have NB469_450:=n10_;have NB458_469:=n11_;have NB469_458:=n12_;clear n0_ n1_ n2_ n3_ n4_ n5_ n6_ n7_ n8_ n9_ n10_ n11_ n12_ hb hbox hg;have hnb57:=NB469_450.out;have hnc57:=NB450_469.out;have hnb58:=NB469_458.out;have hnc58:=NB458_469.out;have hcz59_0:w56.cell? ⟨gb469,0,none⟩ = some (.string (⟨#[]⟩:ByteArray)):=(bL BK469.out 0).trans rfl;have hcz59_1:w56.cell? ⟨gb469,1,none⟩ = some (.slice none 0 0):=(bL BK469.out 1).trans rfl;have hcz59_2:w56.cell? ⟨gb469,2,none⟩ = some (.bool false):=(bL BK469.out 2).trans rfl;have hcz59_3:w56.cell? ⟨gb469,3,none⟩ = some (.string (⟨#[]⟩:ByteArray)):=(bL BK469.out 3).trans rfl;have hfz59_0:=bZ BK469.out 0;have hfz59_1:=bZ BK469.out 1;have hfz59_2:=bZ BK469.out 2;have hfz59_3:=bZ BK469.out 3;obtain ⟨Ao60,co60,eo60⟩:=Kd.R_slice HO465.out;subst eo60)|((with_reducible refine gate_callee (f:=26) rfl ?_);refine goesL_ (some 68) rfl rfl Tryd.func26 (by kernel_rfl) rfl #[.string (t442 ++ (⟨#[47,46,47]⟩:ByteArray))] rfl (aE1 rfl) ?_;(with_reducible refine (impl_AddrRead.calls kj5 (t442 ++ (⟨#[47,46,47]⟩:ByteArray)) t470 t471 t474 t475 true _ A49.out).mono ?_);rintro e w61 ⟨v472,rfl,ho0,hb⟩;refine ⟨_,rfl,?_⟩;have n0_:=Am (Kd.R_elder' (by (with_reducible repeat (first|apply rA|apply rN|apply rD));exact (bQ HO_451001.out BK469.out (by decide) _ _ _ _)) (Kd.R_base ho0) hb);have n1_:=Am (Kd.R_elder' (by (with_reducible repeat (first|apply rA|apply rN|apply rD));exact (bQ HO_459001.out BK469.out (by decide) _ _ _ _)) (Kd.R_base ho0) hb);have n2_:=Am (Kd.R_elder' (by (with_reducible repeat (first|apply rA|apply rN|apply rD));exact (bQ HO465.out BK469.out (by decide) _ _ _ _)) (Kd.R_base ho0) hb);have n3_:=Am (Kd.R_lower (Kd.R_new' (Kd.R_new' (Kd.R_new' ho0 (Kd.R_lt (by (with_reducible repeat (first|apply rA|apply rN|apply rD));exact (bQ HO_451001.out BK469.out (by decide) _ _ _ _)))) (Kd.R_lt (by (with_reducible repeat (first|apply rA|apply rN|apply rD));exact (bQ HO_459001.out BK469.out (by decide) _ _ _ _)))) (Kd.R_lt (by (with_reducible repeat (first|apply rA|apply rN|apply rD));exact (bQ HO465.out BK469.out (by decide) _ _ _ _)))) (bU (by repeat (first|(with_reducible first|exact HB.out|apply bA|apply bN|apply bD|refine bS ?_ GE450.out|refine bS ?_ GE458.out|refine bS ?_ GE469.out)|exact HB.out))));have n4_:=Am (blk_below (g:=gb450) (o:=.cells #[.string t443, .slice Ao11 t444.length co11, .bool t447, .string t448] 25 (0,0)) (by refine bB ?_;refine bF ?_ NB450_469.out;refine bB ?_;exact BK450.out) hb);have n5_:=Am (blk_below (g:=gb458) (o:=.cells #[.string t451, .slice Ao16 t452.length co16, .bool t455, .string t456] 25 (0,0)) (by refine bB ?_;refine bF ?_ NB458_469.out;refine bB ?_;exact BK458.out) hb);have n6_:=Am (blk_below (g:=gb469) (o:=.cells #[.string t462, .slice Ao60 t463.length co60, .bool t466, .string t467] 25 (0,0)) (by refine bB ?_;apply bP;refine bB ?_;exact BK469.out) hb);have n7_:=Am (bT (by repeat (first|(with_reducible first|exact HB.out|apply bA|apply bN|apply bD|refine bS ?_ GE450.out|refine bS ?_ GE458.out|refine bS ?_ GE469.out)|exact HB.out)) hb);clear HO_451001 HO_459001 HO465 BK450 BK458 BK469 HB;have HO_451001:=n0_;have HO_459001:=n1_;have HO465:=n2_;have HO473:=n3_;have BK450:=n4_;have BK458:=n5_;have BK469:=n6_;have HB:=n7_;clear n0_ n1_ n2_ n3_ n4_ n5_ n6_ n7_;(try clear hb);(try clear ho0))|((with_reducible refine gate_dst (N:=10) rfl ?_);(try (refine gate_guard (by rfl) ?_;dsimp only));refine box_event ?hg (N:=10) ?hd (cs:=#[.string (⟨#[]⟩:ByteArray), .slice none 0 0, .bool false, .string (⟨#[]⟩:ByteArray)]) (t:=25) ?hr ?_;(case hd=>rfl);(case hg=>rfl);(case hr=>first|(go_simp;done)|(go_simp;rfl));intro gb477 hg w62 hbox hb;have n0_:=Am (Kd.R_below (bR HO_451001.out) hb);have n1_:=Am (Kd.R_below (bR HO_459001.out) hb);have n2_:=Am (Kd.R_below (bR HO465.out) hb);have n3_:=Am (Kd.R_below (bR HO473.out) hb);have n4_:=Am (blk_below (bB BK450.out) hb);have n5_:=Am (blk_below (bB BK458.out) hb);have n6_:=Am (blk_below (bB BK469.out) hb);have n7_:=Am (bT (by repeat (first|(with_reducible first|exact HB.out|apply bA|apply bN|apply bD|refine bS ?_ GE450.out|refine bS ?_ GE458.out|refine bS ?_ GE469.out)|exact HB.out)) hb);have n8_:=Am (hbox);have n9_:=Am ((by rw [hg];exact (bU (by repeat (first|(with_reducible first|exact HB.out|apply bA|apply bN|apply bD|refine bS ?_ GE450.out|refine bS ?_ GE458.out|refine bS ?_ GE469.out)|exact HB.out))):w.heap.size ≤ gb477));have n10_:=n9_;have n11_:=Am ((by rw [hg];exact Nat.ne_of_lt (blk_lt (bB BK450.out)):gb450 ≠ gb477));have n12_:=Am ((by rw [hg];exact Nat.ne_of_gt (blk_lt (bB BK450.out)):gb477 ≠ gb450));have n13_:=Am ((by rw [hg];exact Nat.ne_of_lt (blk_lt (bB BK458.out)):gb458 ≠ gb477));have n14_:=Am ((by rw [hg];exact Nat.ne_of_gt (blk_lt (bB BK458.out)):gb477 ≠ gb458));have n15_:=Am ((by rw [hg];exact Nat.ne_of_lt (blk_lt (bB BK469.out)):gb469 ≠ gb477));have n16_:=Am ((by rw [hg];exact Nat.ne_of_gt (blk_lt (bB BK469.out)):gb477 ≠ gb469));clear HO_451001 HO_459001 HO465 HO473 BK450 BK458 BK469 HB;have HO_451001:=n0_;have HO_459001:=n1_;have HO465:=n2_;have HO473:=n3_;have BK450:=n4_;have BK458:=n5_;have BK469:=n6_;have HB:=n7_;have BK477:=n8_;have GW477:=n9_;have GE477:=n10_;have NB450_477:=n11_;have NB477_450:=n12_;have NB458_477:=n13_;have NB477_458:=n14_;have NB469_477:=n15_;have NB477_469:=n16_;clear n0_ n1_ n2_ n3_ n4_ n5_ n6_ n7_ n8_ n9_ n10_ n11_ n12_ n13_ n14_ n15_ n16_ hb hbox hg;have hnb63:=NB477_450.out;have hnc63:=NB450_477.out;have hnb64:=NB477_458.out;have hnc64:=NB458_477.out;have hnb65:=NB477_469.out;have hnc65:=NB469_477.out;have hcz66_0:w62.cell? ⟨gb477,0,none⟩ = some (.string (⟨#[]⟩:ByteArray)):=(bL BK477.out 0).trans rfl;have hcz66_1:w62.cell? ⟨gb477,1,none⟩ = some (.slice none 0 0):=(bL BK477.out 1).trans rfl;have hcz66_2:w62.cell? ⟨gb477,2,none⟩ = some (.bool false):=(bL BK477.out 2).trans rfl;have hcz66_3:w62.cell? ⟨gb477,3,none⟩ = some (.string (⟨#[]⟩:ByteArray)):=(bL BK477.out 3).trans rfl;have hfz66_0:=bZ BK477.out 0;have hfz66_1:=bZ BK477.out 1;have hfz66_2:=bZ BK477.out 2;have hfz66_3:=bZ BK477.out 3;obtain ⟨Ao67,co67,eo67⟩:=Kd.R_slice HO473.out;subst eo67;have hcz68_0:w62.cell? ⟨gb469,0,none⟩ = some (.string t462):=(bL BK469.out 0).trans rfl;have hcz68_1:w62.cell? ⟨gb469,1,none⟩ = some (.slice Ao60 t463.length co60):=(bL BK469.out 1).trans rfl;have hcz68_2:w62.cell? ⟨gb469,2,none⟩ = some (.bool t466):=(bL BK469.out 2).trans rfl;have hcz68_3:w62.cell? ⟨gb469,3,none⟩ = some (.string t467):=(bL BK469.out 3).trans rfl;have hfz68_0:=bZ BK469.out 0;have hfz68_1:=bZ BK469.out 1;have hfz68_2:=bZ BK469.out 2;have hfz68_3:=bZ BK469.out 3;have hnb69:=NB458_450.out;have hnc69:=NB450_458.out;have hcz70_0:w62.cell? ⟨gb458,0,none⟩ = some (.string t451):=(bL BK458.out 0).trans rfl;have hcz70_1:w62.cell? ⟨gb458,1,none⟩ = some (.slice Ao16 t452.length co16):=(bL BK458.out 1).trans rfl;have hcz70_2:w62.cell? ⟨gb458,2,none⟩ = some (.bool t455):=(bL BK458.out 2).trans rfl;have hcz70_3:w62.cell? ⟨gb458,3,none⟩ = some (.string t456):=(bL BK458.out 3).trans rfl;have hfz70_0:=bZ BK458.out 0;have hfz70_1:=bZ BK458.out 1;have hfz70_2:=bZ BK458.out 2;have hfz70_3:=bZ BK458.out 3)|(go_at_call 14;(with_reducible refine (laws_lpAddr.calls kj5 t462 _ _ t463 t466 t467 t451 _ _ t452 t455 t456 true _ ?side1 ?side2 ?side3 ?side4 A51.out).mono ?_);(case side1=>refine (Kd.R_reads' (e:=9) (base:=w.heap.size) (ok:=fun k_=>(((True ∧ some k_ ≠ (.slice Ao11 t444.length co11:Value).ownBlock) ∧ some k_ ≠ (.slice Ao16 t452.length co16:Value).ownBlock) ∧ some k_ ≠ (.slice Ao67 t471.length co67:Value).ownBlock)) (n:=t463.length) (c:=co60) ?_).2.2;exact (by (with_reducible repeat (first|apply rA|apply rN|apply rD));exact (bQ HO465.out BK477.out (by decide) _ _ _ _)));(case side2=>exact (Kd.R_reads' HO465.out).2.1);(case side3=>refine (Kd.R_reads' (e:=9) (base:=w.heap.size) (ok:=fun k_=>((some k_ ≠ (.slice Ao11 t444.length co11:Value).ownBlock ∧ some k_ ≠ (.slice Ao60 t463.length co60:Value).ownBlock) ∧ some k_ ≠ (.slice Ao67 t471.length co67:Value).ownBlock)) (n:=t452.length) (c:=co16) ?_).2.2;exact (by (with_reducible repeat (first|apply rA|apply rN|apply rD));exact (bQ HO_459001.out BK477.out (by decide) _ _ _ _)));(case side4=>exact (Kd.R_reads' HO_459001.out).2.1);rintro e w71 ⟨rfl,hb⟩;have n0_:=Am (Kd.R_below (by (with_reducible repeat (first|apply rA|apply rN|apply rD));exact (bQ HO_451001.out BK477.out (by decide) _ _ _ _)) hb);have n1_:=Am (Kd.R_below (by (with_reducible repeat (first|apply rA|apply rN|apply rD));exact (bQ HO_459001.out BK477.out (by decide) _ _ _ _)) hb);have n2_:=Am (Kd.R_below (by (with_reducible repeat (first|apply rA|apply rN|apply rD));exact (bQ HO465.out BK477.out (by decide) _ _ _ _)) hb);have n3_:=Am (Kd.R_below (by (with_reducible repeat (first|apply rA|apply rN|apply rD));exact (bQ HO473.out BK477.out (by decide) _ _ _ _)) hb);have n4_:=Am (blk_below (g:=gb450) (o:=.cells #[.string t443, .slice Ao11 t444.length co11, .bool t447, .string t448] 25 (0,0)) (by refine bB ?_;refine bF ?_ NB450_477.out;refine bB ?_;exact BK450.out) hb);have n5_:=Am (blk_below (g:=gb458) (o:=.cells #[.string t451, .slice Ao16 t452.length co16, .bool t455, .string t456] 25 (0,0)) (by refine bB ?_;refine bF ?_ NB458_477.out;refine bB ?_;exact BK458.out) hb);have n6_:=Am (blk_below (g:=gb469) (o:=.cells #[.string t462, .slice Ao60 t463.length co60, .bool t466, .string t467] 25 (0,0)) (by refine bB ?_;refine bF ?_ NB469_477.out;refine bB ?_;exact BK469.out) hb);have n7_:=Am (blk_below (g:=gb477) (o:=.cells #[.string t470, .slice Ao67 t471.length co67, .bool t474, .string t475] 25 (0,0)) (by refine bB ?_;apply bP;refine bB ?_;exact BK477.out) hb);have n8_:=Am (bT (by repeat (first|(with_reducible first|exact HB.out|apply bA|apply bN|apply bD|refine bS ?_ GE450.out|refine bS ?_ GE458.out|refine bS ?_ GE469.out|refine bS ?_ GE477.out)|exact HB.out)) hb);clear HO_451001 HO_459001 HO465 HO473 BK450 BK458 BK469 BK477 HB;have HO_451001:=n0_;have HO_459001:=n1_;have HO465:=n2_;have HO473:=n3_;have BK450:=n4_;have BK458:=n5_;have BK469:=n6_;have BK477:=n7_;have HB:=n8_;clear n0_ n1_ n2_ n3_ n4_ n5_ n6_ n7_ n8_;(try clear hb);have hcz72_0:w71.cell? ⟨gb477,0,none⟩ = some (.string t470):=(bL BK477.out 0).trans rfl;have hcz72_1:w71.cell? ⟨gb477,1,none⟩ = some (.slice Ao67 t471.length co67):=(bL BK477.out 1).trans rfl;have hcz72_2:w71.cell? ⟨gb477,2,none⟩ = some (.bool t474):=(bL BK477.out 2).trans rfl;have hcz72_3:w71.cell? ⟨gb477,3,none⟩ = some (.string t475):=(bL BK477.out 3).trans rfl;have hfz72_0:=bZ BK477.out 0;have hfz72_1:=bZ BK477.out 1;have hfz72_2:=bZ BK477.out 2;have hfz72_3:=bZ BK477.out 3;have hcz73_0:w71.cell? ⟨gb458,0,none⟩ = some (.string t451):=(bL BK458.out 0).trans rfl;have hcz73_1:w71.cell? ⟨gb458,1,none⟩ = some (.slice Ao16 t452.length co16):=(bL BK458.out 1).trans rfl;have hcz73_2:w71.cell? ⟨gb458,2,none⟩ = some (.bool t455):=(bL BK458.out 2).trans rfl;have hcz73_3:w71.cell? ⟨gb458,3,none⟩ = some (.string t456):=(bL BK458.out 3).trans rfl;have hfz73_0:=bZ BK458.out 0;have hfz73_1:=bZ BK458.out 1;have hfz73_2:=bZ BK458.out 2;have hfz73_3:=bZ BK458.out 3)|(go_at_call 14;(with_reducible refine (laws_lpAddr.calls kj5 t470 _ _ t471 t474 t475 t451 _ _ t452 t455 t456 t479 _ ?side1 ?side2 ?side3 ?side4 A54.out).mono ?_);(case side1=>repeat (first|exact (Kd.R_reads' HO473.out).2.2|(with_reducible refine bC ?_)));(case side2=>exact (Kd.R_reads' HO473.out).2.1);(case side3=>repeat (first|exact (Kd.R_reads' HO_459001.out).2.2|(with_reducible refine bC ?_)));(case side4=>exact (Kd.R_reads' HO_459001.out).2.1);rintro e w74 ⟨rfl,hb⟩;have n0_:=Am (Kd.R_below (bR HO_451001.out) hb);have n1_:=Am (Kd.R_below (bR HO_459001.out) hb);have n2_:=Am (Kd.R_below (bR HO465.out) hb);have n3_:=Am (Kd.R_below (bR HO473.out) hb);have n4_:=Am (blk_below (bB BK450.out) hb);have n5_:=Am (blk_below (bB BK458.out) hb);have n6_:=Am (blk_below (bB BK469.out) hb);have n7_:=Am (blk_below (bB BK477.out) hb);have n8_:=Am (bT (by repeat (first|(with_reducible first|exact HB.out|apply bA|apply bN|apply bD|refine bS ?_ GE450.out|refine bS ?_ GE458.out|refine bS ?_ GE469.out|refine bS ?_ GE477.out)|exact HB.out)) hb);clear HO_451001 HO_459001 HO465 HO473 BK450 BK458 BK469 BK477 HB;have HO_451001:=n0_;have HO_459001:=n1_;have HO465:=n2_;have HO473:=n3_;have BK450:=n4_;have BK458:=n5_;have BK469:=n6_;have BK477:=n7_;have HB:=n8_;clear n0_ n1_ n2_ n3_ n4_ n5_ n6_ n7_ n8_;(try clear hb)))
          go_ret
          exact ⟨by first|rfl|(simp <;> rfl)|(simp [*] <;> rfl),by repeat (first|(with_reducible first|exact HB.out|apply bA|apply bN|apply bD|refine bS ?_ GE450.out|refine bS ?_ GE458.out|refine bS ?_ GE469.out|refine bS ?_ GE477.out)|exact HB.out)⟩
         ·replace c53:=Bool.eq_false_iff.mpr c53
          subst c53
          have H1:(some false) = some r:=by rw [if_neg (show ¬ (false = true) by decide)] at H;exact H
          clear H
          have H:=H1
          clear H1
          obtain rfl:=Option.some.inj H
          go_wp2_with (first|((with_reducible refine gate_callee (f:=26) rfl ?_);refine goesL_ (some 62) rfl rfl Tryd.func26 (by kernel_rfl) rfl #[.string (t442 ++ (⟨#[47]⟩:ByteArray))] rfl (aE1 rfl) ?_;(with_reducible refine (impl_AddrRead.calls kj5 (t442 ++ (⟨#[47]⟩:ByteArray)) t462 t463 t466 t467 true _ A47.out).mono ?_);rintro e w75 ⟨v464,rfl,ho0,hb⟩;refine ⟨_,rfl,?_⟩;have n0_:=Am (Kd.R_elder' (bR HO_451001.out) (Kd.R_base ho0) hb);have n1_:=Am (Kd.R_elder' (bR HO_459001.out) (Kd.R_base ho0) hb);have n2_:=Am (Kd.R_lower (Kd.R_new' (Kd.R_new' ho0 (Kd.R_lt (bR HO_451001.out))) (Kd.R_lt (bR HO_459001.out))) (bU (by repeat (first|(with_reducible first|exact HB.out|apply bA|apply bN|apply bD|refine bS ?_ GE450.out|refine bS ?_ GE458.out)|exact HB.out))));have n3_:=Am (blk_below (bB BK450.out) hb);have n4_:=Am (blk_below (bB BK458.out) hb);have n5_:=Am (bT (by repeat (first|(with_reducible first|exact HB.out|apply bA|apply bN|apply bD|refine bS ?_ GE450.out|refine bS ?_ GE458.out)|exact HB.out)) hb);clear HO_451001 HO_459001 BK450 BK458 HB;have HO_451001:=n0_;have HO_459001:=n1_;have HO465:=n2_;have BK450:=n3_;have BK458:=n4_;have HB:=n5_;clear n0_ n1_ n2_ n3_ n4_ n5_;(try clear hb);(try clear ho0))|((with_reducible refine gate_dst (N:=8) rfl ?_);(try (refine gate_guard (by rfl) ?_;dsimp only));refine box_event ?hg (N:=8) ?hd (cs:=#[.string (⟨#[]⟩:ByteArray), .slice none 0 0, .bool false, .string (⟨#[]⟩:ByteArray)]) (t:=25) ?hr ?_;(case hd=>rfl);(case hg=>rfl);(case hr=>first|(go_simp;done)|(go_simp;rfl));intro gb469 hg w76 hbox hb;have n0_:=Am (Kd.R_below (bR HO_451001.out) hb);have n1_:=Am (Kd.R_below (bR HO_459001.out) hb);have n2_:=Am (Kd.R_below (bR HO465.out) hb);have n3_:=Am (blk_below (bB BK450.out) hb);have n4_:=Am (blk_below (bB BK458.out) hb);have n5_:=Am (bT (by repeat (first|(with_reducible first|exact HB.out|apply bA|apply bN|apply bD|refine bS ?_ GE450.out|refine bS ?_ GE458.out)|exact HB.out)) hb);have n6_:=Am (hbox);have n7_:=Am ((by rw [hg];exact (bU (by repeat (first|(with_reducible first|exact HB.out|apply bA|apply bN|apply bD|refine bS ?_ GE450.out|refine bS ?_ GE458.out)|exact HB.out))):w.heap.size ≤ gb469));have n8_:=n7_;have n9_:=Am ((by rw [hg];exact Nat.ne_of_lt (blk_lt (bB BK450.out)):gb450 ≠ gb469));have n10_:=Am ((by rw [hg];exact Nat.ne_of_gt (blk_lt (bB BK450.out)):gb469 ≠ gb450));have n11_:=Am ((by rw [hg];exact Nat.ne_of_lt (blk_lt (bB BK458.out)):gb458 ≠ gb469));have n12_:=Am ((by rw [hg];exact Nat.ne_of_gt (blk_lt (bB BK458.out)):gb469 ≠ gb458));clear HO_451001 HO_459001 HO465 BK450 BK458 HB;have HO_451001:=n0_;have HO_459001:=n1_;have HO465:=n2_;have BK450:=n3_;have BK458:=n4_;have HB:=n5_;have BK469:=n6_;have GW469:=n7_;have GE469:=n8_;have NB450_469:=n9_;have NB469_450:=n10_;have NB458_469:=n11_;have NB469_458:=n12_;clear n0_ n1_ n2_ n3_ n4_ n5_ n6_ n7_ n8_ n9_ n10_ n11_ n12_ hb hbox hg;have hnb77:=NB469_450.out;have hnc77:=NB450_469.out;have hnb78:=NB469_458.out;have hnc78:=NB458_469.out;have hcz79_0:w76.cell? ⟨gb469,0,none⟩ = some (.string (⟨#[]⟩:ByteArray)):=(bL BK469.out 0).trans rfl;have hcz79_1:w76.cell? ⟨gb469,1,none⟩ = some (.slice none 0 0):=(bL BK469.out 1).trans rfl;have hcz79_2:w76.cell? ⟨gb469,2,none⟩ = some (.bool false):=(bL BK469.out 2).trans rfl;have hcz79_3:w76.cell? ⟨gb469,3,none⟩ = some (.string (⟨#[]⟩:ByteArray)):=(bL BK469.out 3).trans rfl;have hfz79_0:=bZ BK469.out 0;have hfz79_1:=bZ BK469.out 1;have hfz79_2:=bZ BK469.out 2;have hfz79_3:=bZ BK469.out 3;obtain ⟨Ao80,co80,eo80⟩:=Kd.R_slice HO465.out;subst eo80)|((with_reducible refine gate_callee (f:=26) rfl ?_);refine goesL_ (some 68) rfl rfl Tryd.func26 (by kernel_rfl) rfl #[.string (t442 ++ (⟨#[47,46,47]⟩:ByteArray))] rfl (aE1 rfl) ?_;(with_reducible refine (impl_AddrRead.calls kj5 (t442 ++ (⟨#[47,46,47]⟩:ByteArray)) t470 t471 t474 t475 false _ A49.out).mono ?_);rintro e w81 ⟨v472,rfl,ho0,hb⟩;refine ⟨_,rfl,?_⟩;have n0_:=Am (Kd.R_elder' (by (with_reducible repeat (first|apply rA|apply rN|apply rD));exact (bQ HO_451001.out BK469.out (by decide) _ _ _ _)) (Kd.R_base ho0) hb);have n1_:=Am (Kd.R_elder' (by (with_reducible repeat (first|apply rA|apply rN|apply rD));exact (bQ HO_459001.out BK469.out (by decide) _ _ _ _)) (Kd.R_base ho0) hb);have n2_:=Am (Kd.R_elder' (by (with_reducible repeat (first|apply rA|apply rN|apply rD));exact (bQ HO465.out BK469.out (by decide) _ _ _ _)) (Kd.R_base ho0) hb);have n3_:=Am (Kd.R_lower (Kd.R_new' (Kd.R_new' (Kd.R_new' ho0 (Kd.R_lt (by (with_reducible repeat (first|apply rA|apply rN|apply rD));exact (bQ HO_451001.out BK469.out (by decide) _ _ _ _)))) (Kd.R_lt (by (with_reducible repeat (first|apply rA|apply rN|apply rD));exact (bQ HO_459001.out BK469.out (by decide) _ _ _ _)))) (Kd.R_lt (by (with_reducible repeat (first|apply rA|apply rN|apply rD));exact (bQ HO465.out BK469.out (by decide) _ _ _ _)))) (bU (by repeat (first|(with_reducible first|exact HB.out|apply bA|apply bN|apply bD|refine bS ?_ GE450.out|refine bS ?_ GE458.out|refine bS ?_ GE469.out)|exact HB.out))));have n4_:=Am (blk_below (g:=gb450) (o:=.cells #[.string t443, .slice Ao11 t444.length co11, .bool t447, .string t448] 25 (0,0)) (by refine bB ?_;refine bF ?_ NB450_469.out;refine bB ?_;exact BK450.out) hb);have n5_:=Am (blk_below (g:=gb458) (o:=.cells #[.string t451, .slice Ao16 t452.length co16, .bool t455, .string t456] 25 (0,0)) (by refine bB ?_;refine bF ?_ NB458_469.out;refine bB ?_;exact BK458.out) hb);have n6_:=Am (blk_below (g:=gb469) (o:=.cells #[.string t462, .slice Ao80 t463.length co80, .bool t466, .string t467] 25 (0,0)) (by refine bB ?_;apply bP;refine bB ?_;exact BK469.out) hb);have n7_:=Am (bT (by repeat (first|(with_reducible first|exact HB.out|apply bA|apply bN|apply bD|refine bS ?_ GE450.out|refine bS ?_ GE458.out|refine bS ?_ GE469.out)|exact HB.out)) hb);clear HO_451001 HO_459001 HO465 BK450 BK458 BK469 HB;have HO_451001:=n0_;have HO_459001:=n1_;have HO465:=n2_;have HO473:=n3_;have BK450:=n4_;have BK458:=n5_;have BK469:=n6_;have HB:=n7_;clear n0_ n1_ n2_ n3_ n4_ n5_ n6_ n7_;(try clear hb);(try clear ho0))|((with_reducible refine gate_dst (N:=10) rfl ?_);(try (refine gate_guard (by rfl) ?_;dsimp only));refine box_event ?hg (N:=10) ?hd (cs:=#[.string (⟨#[]⟩:ByteArray), .slice none 0 0, .bool false, .string (⟨#[]⟩:ByteArray)]) (t:=25) ?hr ?_;(case hd=>rfl);(case hg=>rfl);(case hr=>first|(go_simp;done)|(go_simp;rfl));intro gb477 hg w82 hbox hb;have n0_:=Am (Kd.R_below (bR HO_451001.out) hb);have n1_:=Am (Kd.R_below (bR HO_459001.out) hb);have n2_:=Am (Kd.R_below (bR HO465.out) hb);have n3_:=Am (Kd.R_below (bR HO473.out) hb);have n4_:=Am (blk_below (bB BK450.out) hb);have n5_:=Am (blk_below (bB BK458.out) hb);have n6_:=Am (blk_below (bB BK469.out) hb);have n7_:=Am (bT (by repeat (first|(with_reducible first|exact HB.out|apply bA|apply bN|apply bD|refine bS ?_ GE450.out|refine bS ?_ GE458.out|refine bS ?_ GE469.out)|exact HB.out)) hb);have n8_:=Am (hbox);have n9_:=Am ((by rw [hg];exact (bU (by repeat (first|(with_reducible first|exact HB.out|apply bA|apply bN|apply bD|refine bS ?_ GE450.out|refine bS ?_ GE458.out|refine bS ?_ GE469.out)|exact HB.out))):w.heap.size ≤ gb477));have n10_:=n9_;have n11_:=Am ((by rw [hg];exact Nat.ne_of_lt (blk_lt (bB BK450.out)):gb450 ≠ gb477));have n12_:=Am ((by rw [hg];exact Nat.ne_of_gt (blk_lt (bB BK450.out)):gb477 ≠ gb450));have n13_:=Am ((by rw [hg];exact Nat.ne_of_lt (blk_lt (bB BK458.out)):gb458 ≠ gb477));have n14_:=Am ((by rw [hg];exact Nat.ne_of_gt (blk_lt (bB BK458.out)):gb477 ≠ gb458));have n15_:=Am ((by rw [hg];exact Nat.ne_of_lt (blk_lt (bB BK469.out)):gb469 ≠ gb477));have n16_:=Am ((by rw [hg];exact Nat.ne_of_gt (blk_lt (bB BK469.out)):gb477 ≠ gb469));clear HO_451001 HO_459001 HO465 HO473 BK450 BK458 BK469 HB;have HO_451001:=n0_;have HO_459001:=n1_;have HO465:=n2_;have HO473:=n3_;have BK450:=n4_;have BK458:=n5_;have BK469:=n6_;have HB:=n7_;have BK477:=n8_;have GW477:=n9_;have GE477:=n10_;have NB450_477:=n11_;have NB477_450:=n12_;have NB458_477:=n13_;have NB477_458:=n14_;have NB469_477:=n15_;have NB477_469:=n16_;clear n0_ n1_ n2_ n3_ n4_ n5_ n6_ n7_ n8_ n9_ n10_ n11_ n12_ n13_ n14_ n15_ n16_ hb hbox hg;have hnb83:=NB477_450.out;have hnc83:=NB450_477.out;have hnb84:=NB477_458.out;have hnc84:=NB458_477.out;have hnb85:=NB477_469.out;have hnc85:=NB469_477.out;have hcz86_0:w82.cell? ⟨gb477,0,none⟩ = some (.string (⟨#[]⟩:ByteArray)):=(bL BK477.out 0).trans rfl;have hcz86_1:w82.cell? ⟨gb477,1,none⟩ = some (.slice none 0 0):=(bL BK477.out 1).trans rfl;have hcz86_2:w82.cell? ⟨gb477,2,none⟩ = some (.bool false):=(bL BK477.out 2).trans rfl;have hcz86_3:w82.cell? ⟨gb477,3,none⟩ = some (.string (⟨#[]⟩:ByteArray)):=(bL BK477.out 3).trans rfl;have hfz86_0:=bZ BK477.out 0;have hfz86_1:=bZ BK477.out 1;have hfz86_2:=bZ BK477.out 2;have hfz86_3:=bZ BK477.out 3;obtain ⟨Ao87,co87,eo87⟩:=Kd.R_slice HO473.out;subst eo87;have hcz88_0:w82.cell? ⟨gb469,0,none⟩ = some (.string t462):=(bL BK469.out 0).trans rfl;have hcz88_1:w82.cell? ⟨gb469,1,none⟩ = some (.slice Ao80 t463.length co80):=(bL BK469.out 1).trans rfl;have hcz88_2:w82.cell? ⟨gb469,2,none⟩ = some (.bool t466):=(bL BK469.out 2).trans rfl;have hcz88_3:w82.cell? ⟨gb469,3,none⟩ = some (.string t467):=(bL BK469.out 3).trans rfl;have hfz88_0:=bZ BK469.out 0;have hfz88_1:=bZ BK469.out 1;have hfz88_2:=bZ BK469.out 2;have hfz88_3:=bZ BK469.out 3;have hnb89:=NB458_450.out;have hnc89:=NB450_458.out;have hcz90_0:w82.cell? ⟨gb458,0,none⟩ = some (.string t451):=(bL BK458.out 0).trans rfl;have hcz90_1:w82.cell? ⟨gb458,1,none⟩ = some (.slice Ao16 t452.length co16):=(bL BK458.out 1).trans rfl;have hcz90_2:w82.cell? ⟨gb458,2,none⟩ = some (.bool t455):=(bL BK458.out 2).trans rfl;have hcz90_3:w82.cell? ⟨gb458,3,none⟩ = some (.string t456):=(bL BK458.out 3).trans rfl;have hfz90_0:=bZ BK458.out 0;have hfz90_1:=bZ BK458.out 1;have hfz90_2:=bZ BK458.out 2;have hfz90_3:=bZ BK458.out 3)|(go_at_call 14;(with_reducible refine (laws_lpAddr.calls kj5 t462 _ _ t463 t466 t467 t451 _ _ t452 t455 t456 true _ ?side1 ?side2 ?side3 ?side4 A51.out).mono ?_);(case side1=>refine (Kd.R_reads' (e:=9) (base:=w.heap.size) (ok:=fun k_=>(((True ∧ some k_ ≠ (.slice Ao11 t444.length co11:Value).ownBlock) ∧ some k_ ≠ (.slice Ao16 t452.length co16:Value).ownBlock) ∧ some k_ ≠ (.slice Ao87 t471.length co87:Value).ownBlock)) (n:=t463.length) (c:=co80) ?_).2.2;exact (by (with_reducible repeat (first|apply rA|apply rN|apply rD));exact (bQ HO465.out BK477.out (by decide) _ _ _ _)));(case side2=>exact (Kd.R_reads' HO465.out).2.1);(case side3=>refine (Kd.R_reads' (e:=9) (base:=w.heap.size) (ok:=fun k_=>((some k_ ≠ (.slice Ao11 t444.length co11:Value).ownBlock ∧ some k_ ≠ (.slice Ao80 t463.length co80:Value).ownBlock) ∧ some k_ ≠ (.slice Ao87 t471.length co87:Value).ownBlock)) (n:=t452.length) (c:=co16) ?_).2.2;exact (by (with_reducible repeat (first|apply rA|apply rN|apply rD));exact (bQ HO_459001.out BK477.out (by decide) _ _ _ _)));(case side4=>exact (Kd.R_reads' HO_459001.out).2.1);rintro e w91 ⟨rfl,hb⟩;have n0_:=Am (Kd.R_below (by (with_reducible repeat (first|apply rA|apply rN|apply rD));exact (bQ HO_451001.out BK477.out (by decide) _ _ _ _)) hb);have n1_:=Am (Kd.R_below (by (with_reducible repeat (first|apply rA|apply rN|apply rD));exact (bQ HO_459001.out BK477.out (by decide) _ _ _ _)) hb);have n2_:=Am (Kd.R_below (by (with_reducible repeat (first|apply rA|apply rN|apply rD));exact (bQ HO465.out BK477.out (by decide) _ _ _ _)) hb);have n3_:=Am (Kd.R_below (by (with_reducible repeat (first|apply rA|apply rN|apply rD));exact (bQ HO473.out BK477.out (by decide) _ _ _ _)) hb);have n4_:=Am (blk_below (g:=gb450) (o:=.cells #[.string t443, .slice Ao11 t444.length co11, .bool t447, .string t448] 25 (0,0)) (by refine bB ?_;refine bF ?_ NB450_477.out;refine bB ?_;exact BK450.out) hb);have n5_:=Am (blk_below (g:=gb458) (o:=.cells #[.string t451, .slice Ao16 t452.length co16, .bool t455, .string t456] 25 (0,0)) (by refine bB ?_;refine bF ?_ NB458_477.out;refine bB ?_;exact BK458.out) hb);have n6_:=Am (blk_below (g:=gb469) (o:=.cells #[.string t462, .slice Ao80 t463.length co80, .bool t466, .string t467] 25 (0,0)) (by refine bB ?_;refine bF ?_ NB469_477.out;refine bB ?_;exact BK469.out) hb);have n7_:=Am (blk_below (g:=gb477) (o:=.cells #[.string t470, .slice Ao87 t471.length co87, .bool t474, .string t475] 25 (0,0)) (by refine bB ?_;apply bP;refine bB ?_;exact BK477.out) hb);have n8_:=Am (bT (by repeat (first|(with_reducible first|exact HB.out|apply bA|apply bN|apply bD|refine bS ?_ GE450.out|refine bS ?_ GE458.out|refine bS ?_ GE469.out|refine bS ?_ GE477.out)|exact HB.out)) hb);clear HO_451001 HO_459001 HO465 HO473 BK450 BK458 BK469 BK477 HB;have HO_451001:=n0_;have HO_459001:=n1_;have HO465:=n2_;have HO473:=n3_;have BK450:=n4_;have BK458:=n5_;have BK469:=n6_;have BK477:=n7_;have HB:=n8_;clear n0_ n1_ n2_ n3_ n4_ n5_ n6_ n7_ n8_;(try clear hb)))
          go_ret
          exact ⟨by first|rfl|(simp <;> rfl)|(simp [*] <;> rfl),by repeat (first|(with_reducible first|exact HB.out|apply bA|apply bN|apply bD|refine bS ?_ GE450.out|refine bS ?_ GE458.out|refine bS ?_ GE469.out|refine bS ?_ GE477.out)|exact HB.out)⟩
        ·replace c52:=Bool.eq_false_iff.mpr c52
         subst c52
         have H1:(some false) = some r:=by rw [if_neg (show ¬ (false = true) by decide)] at H;exact H
         clear H
         have H:=H1
         clear H1
         obtain rfl:=Option.some.inj H
         go_wp2_with (first|((with_reducible refine gate_callee (f:=26) rfl ?_);refine goesL_ (some 62) rfl rfl Tryd.func26 (by kernel_rfl) rfl #[.string (t442 ++ (⟨#[47]⟩:ByteArray))] rfl (aE1 rfl) ?_;(with_reducible refine (impl_AddrRead.calls kj5 (t442 ++ (⟨#[47]⟩:ByteArray)) t462 t463 t466 t467 true _ A47.out).mono ?_);rintro e w92 ⟨v464,rfl,ho0,hb⟩;refine ⟨_,rfl,?_⟩;have n0_:=Am (Kd.R_elder' (bR HO_451001.out) (Kd.R_base ho0) hb);have n1_:=Am (Kd.R_elder' (bR HO_459001.out) (Kd.R_base ho0) hb);have n2_:=Am (Kd.R_lower (Kd.R_new' (Kd.R_new' ho0 (Kd.R_lt (bR HO_451001.out))) (Kd.R_lt (bR HO_459001.out))) (bU (by repeat (first|(with_reducible first|exact HB.out|apply bA|apply bN|apply bD|refine bS ?_ GE450.out|refine bS ?_ GE458.out)|exact HB.out))));have n3_:=Am (blk_below (bB BK450.out) hb);have n4_:=Am (blk_below (bB BK458.out) hb);have n5_:=Am (bT (by repeat (first|(with_reducible first|exact HB.out|apply bA|apply bN|apply bD|refine bS ?_ GE450.out|refine bS ?_ GE458.out)|exact HB.out)) hb);clear HO_451001 HO_459001 BK450 BK458 HB;have HO_451001:=n0_;have HO_459001:=n1_;have HO465:=n2_;have BK450:=n3_;have BK458:=n4_;have HB:=n5_;clear n0_ n1_ n2_ n3_ n4_ n5_;(try clear hb);(try clear ho0))|((with_reducible refine gate_dst (N:=8) rfl ?_);(try (refine gate_guard (by rfl) ?_;dsimp only));refine box_event ?hg (N:=8) ?hd (cs:=#[.string (⟨#[]⟩:ByteArray), .slice none 0 0, .bool false, .string (⟨#[]⟩:ByteArray)]) (t:=25) ?hr ?_;(case hd=>rfl);(case hg=>rfl);(case hr=>first|(go_simp;done)|(go_simp;rfl));intro gb469 hg w93 hbox hb;have n0_:=Am (Kd.R_below (bR HO_451001.out) hb);have n1_:=Am (Kd.R_below (bR HO_459001.out) hb);have n2_:=Am (Kd.R_below (bR HO465.out) hb);have n3_:=Am (blk_below (bB BK450.out) hb);have n4_:=Am (blk_below (bB BK458.out) hb);have n5_:=Am (bT (by repeat (first|(with_reducible first|exact HB.out|apply bA|apply bN|apply bD|refine bS ?_ GE450.out|refine bS ?_ GE458.out)|exact HB.out)) hb);have n6_:=Am (hbox);have n7_:=Am ((by rw [hg];exact (bU (by repeat (first|(with_reducible first|exact HB.out|apply bA|apply bN|apply bD|refine bS ?_ GE450.out|refine bS ?_ GE458.out)|exact HB.out))):w.heap.size ≤ gb469));have n8_:=n7_;have n9_:=Am ((by rw [hg];exact Nat.ne_of_lt (blk_lt (bB BK450.out)):gb450 ≠ gb469));have n10_:=Am ((by rw [hg];exact Nat.ne_of_gt (blk_lt (bB BK450.out)):gb469 ≠ gb450));have n11_:=Am ((by rw [hg];exact Nat.ne_of_lt (blk_lt (bB BK458.out)):gb458 ≠ gb469));have n12_:=Am ((by rw [hg];exact Nat.ne_of_gt (blk_lt (bB BK458.out)):gb469 ≠ gb458));clear HO_451001 HO_459001 HO465 BK450 BK458 HB;have HO_451001:=n0_;have HO_459001:=n1_;have HO465:=n2_;have BK450:=n3_;have BK458:=n4_;have HB:=n5_;have BK469:=n6_;have GW469:=n7_;have GE469:=n8_;have NB450_469:=n9_;have NB469_450:=n10_;have NB458_469:=n11_;have NB469_458:=n12_;clear n0_ n1_ n2_ n3_ n4_ n5_ n6_ n7_ n8_ n9_ n10_ n11_ n12_ hb hbox hg;have hnb94:=NB469_450.out;have hnc94:=NB450_469.out;have hnb95:=NB469_458.out;have hnc95:=NB458_469.out;have hcz96_0:w93.cell? ⟨gb469,0,none⟩ = some (.string (⟨#[]⟩:ByteArray)):=(bL BK469.out 0).trans rfl;have hcz96_1:w93.cell? ⟨gb469,1,none⟩ = some (.slice none 0 0):=(bL BK469.out 1).trans rfl;have hcz96_2:w93.cell? ⟨gb469,2,none⟩ = some (.bool false):=(bL BK469.out 2).trans rfl;have hcz96_3:w93.cell? ⟨gb469,3,none⟩ = some (.string (⟨#[]⟩:ByteArray)):=(bL BK469.out 3).trans rfl;have hfz96_0:=bZ BK469.out 0;have hfz96_1:=bZ BK469.out 1;have hfz96_2:=bZ BK469.out 2;have hfz96_3:=bZ BK469.out 3;obtain ⟨Ao97,co97,eo97⟩:=Kd.R_slice HO465.out;subst eo97)|((with_reducible refine gate_callee (f:=26) rfl ?_);refine goesL_ (some 68) rfl rfl Tryd.func26 (by kernel_rfl) rfl #[.string (t442 ++ (⟨#[47,46,47]⟩:ByteArray))] rfl (aE1 rfl) ?_;(with_reducible refine (impl_AddrRead.calls kj5 (t442 ++ (⟨#[47,46,47]⟩:ByteArray)) t470 t471 t474 t475 t476 _ A49.out).mono ?_);rintro e w98 ⟨v472,rfl,ho0,hb⟩;refine ⟨_,rfl,?_⟩;have n0_:=Am (Kd.R_elder' (by (with_reducible repeat (first|apply rA|apply rN|apply rD));exact (bQ HO_451001.out BK469.out (by decide) _ _ _ _)) (Kd.R_base ho0) hb);have n1_:=Am (Kd.R_elder' (by (with_reducible repeat (first|apply rA|apply rN|apply rD));exact (bQ HO_459001.out BK469.out (by decide) _ _ _ _)) (Kd.R_base ho0) hb);have n2_:=Am (Kd.R_elder' (by (with_reducible repeat (first|apply rA|apply rN|apply rD));exact (bQ HO465.out BK469.out (by decide) _ _ _ _)) (Kd.R_base ho0) hb);have n3_:=Am (Kd.R_lower (Kd.R_new' (Kd.R_new' (Kd.R_new' ho0 (Kd.R_lt (by (with_reducible repeat (first|apply rA|apply rN|apply rD));exact (bQ HO_451001.out BK469.out (by decide) _ _ _ _)))) (Kd.R_lt (by (with_reducible repeat (first|apply rA|apply rN|apply rD));exact (bQ HO_459001.out BK469.out (by decide) _ _ _ _)))) (Kd.R_lt (by (with_reducible repeat (first|apply rA|apply rN|apply rD));exact (bQ HO465.out BK469.out (by decide) _ _ _ _)))) (bU (by repeat (first|(with_reducible first|exact HB.out|apply bA|apply bN|apply bD|refine bS ?_ GE450.out|refine bS ?_ GE458.out|refine bS ?_ GE469.out)|exact HB.out))));have n4_:=Am (blk_below (g:=gb450) (o:=.cells #[.string t443, .slice Ao11 t444.length co11, .bool t447, .string t448] 25 (0,0)) (by refine bB ?_;refine bF ?_ NB450_469.out;refine bB ?_;exact BK450.out) hb);have n5_:=Am (blk_below (g:=gb458) (o:=.cells #[.string t451, .slice Ao16 t452.length co16, .bool t455, .string t456] 25 (0,0)) (by refine bB ?_;refine bF ?_ NB458_469.out;refine bB ?_;exact BK458.out) hb);have n6_:=Am (blk_below (g:=gb469) (o:=.cells #[.string t462, .slice Ao97 t463.length co97, .bool t466, .string t467] 25 (0,0)) (by refine bB ?_;apply bP;refine bB ?_;exact BK469.out) hb);have n7_:=Am (bT (by repeat (first|(with_reducible first|exact HB.out|apply bA|apply bN|apply bD|refine bS ?_ GE450.out|refine bS ?_ GE458.out|refine bS ?_ GE469.out)|exact HB.out)) hb);clear HO_451001 HO_459001 HO465 BK450 BK458 BK469 HB;have HO_451001:=n0_;have HO_459001:=n1_;have HO465:=n2_;have HO473:=n3_;have BK450:=n4_;have BK458:=n5_;have BK469:=n6_;have HB:=n7_;clear n0_ n1_ n2_ n3_ n4_ n5_ n6_ n7_;(try clear hb);(try clear ho0))|((with_reducible refine gate_dst (N:=10) rfl ?_);(try (refine gate_guard (by rfl) ?_;dsimp only));refine box_event ?hg (N:=10) ?hd (cs:=#[.string (⟨#[]⟩:ByteArray), .slice none 0 0, .bool false, .string (⟨#[]⟩:ByteArray)]) (t:=25) ?hr ?_;(case hd=>rfl);(case hg=>rfl);(case hr=>first|(go_simp;done)|(go_simp;rfl));intro gb477 hg w99 hbox hb;have n0_:=Am (Kd.R_below (bR HO_451001.out) hb);have n1_:=Am (Kd.R_below (bR HO_459001.out) hb);have n2_:=Am (Kd.R_below (bR HO465.out) hb);have n3_:=Am (Kd.R_below (bR HO473.out) hb);have n4_:=Am (blk_below (bB BK450.out) hb);have n5_:=Am (blk_below (bB BK458.out) hb);have n6_:=Am (blk_below (bB BK469.out) hb);have n7_:=Am (bT (by repeat (first|(with_reducible first|exact HB.out|apply bA|apply bN|apply bD|refine bS ?_ GE450.out|refine bS ?_ GE458.out|refine bS ?_ GE469.out)|exact HB.out)) hb);have n8_:=Am (hbox);have n9_:=Am ((by rw [hg];exact (bU (by repeat (first|(with_reducible first|exact HB.out|apply bA|apply bN|apply bD|refine bS ?_ GE450.out|refine bS ?_ GE458.out|refine bS ?_ GE469.out)|exact HB.out))):w.heap.size ≤ gb477));have n10_:=n9_;have n11_:=Am ((by rw [hg];exact Nat.ne_of_lt (blk_lt (bB BK450.out)):gb450 ≠ gb477));have n12_:=Am ((by rw [hg];exact Nat.ne_of_gt (blk_lt (bB BK450.out)):gb477 ≠ gb450));have n13_:=Am ((by rw [hg];exact Nat.ne_of_lt (blk_lt (bB BK458.out)):gb458 ≠ gb477));have n14_:=Am ((by rw [hg];exact Nat.ne_of_gt (blk_lt (bB BK458.out)):gb477 ≠ gb458));have n15_:=Am ((by rw [hg];exact Nat.ne_of_lt (blk_lt (bB BK469.out)):gb469 ≠ gb477));have n16_:=Am ((by rw [hg];exact Nat.ne_of_gt (blk_lt (bB BK469.out)):gb477 ≠ gb469));clear HO_451001 HO_459001 HO465 HO473 BK450 BK458 BK469 HB;have HO_451001:=n0_;have HO_459001:=n1_;have HO465:=n2_;have HO473:=n3_;have BK450:=n4_;have BK458:=n5_;have BK469:=n6_;have HB:=n7_;have BK477:=n8_;have GW477:=n9_;have GE477:=n10_;have NB450_477:=n11_;have NB477_450:=n12_;have NB458_477:=n13_;have NB477_458:=n14_;have NB469_477:=n15_;have NB477_469:=n16_;clear n0_ n1_ n2_ n3_ n4_ n5_ n6_ n7_ n8_ n9_ n10_ n11_ n12_ n13_ n14_ n15_ n16_ hb hbox hg;have hnb100:=NB477_450.out;have hnc100:=NB450_477.out;have hnb101:=NB477_458.out;have hnc101:=NB458_477.out;have hnb102:=NB477_469.out;have hnc102:=NB469_477.out;have hcz103_0:w99.cell? ⟨gb477,0,none⟩ = some (.string (⟨#[]⟩:ByteArray)):=(bL BK477.out 0).trans rfl;have hcz103_1:w99.cell? ⟨gb477,1,none⟩ = some (.slice none 0 0):=(bL BK477.out 1).trans rfl;have hcz103_2:w99.cell? ⟨gb477,2,none⟩ = some (.bool false):=(bL BK477.out 2).trans rfl;have hcz103_3:w99.cell? ⟨gb477,3,none⟩ = some (.string (⟨#[]⟩:ByteArray)):=(bL BK477.out 3).trans rfl;have hfz103_0:=bZ BK477.out 0;have hfz103_1:=bZ BK477.out 1;have hfz103_2:=bZ BK477.out 2;have hfz103_3:=bZ BK477.out 3;obtain ⟨Ao104,co104,eo104⟩:=Kd.R_slice HO473.out;subst eo104;have hcz105_0:w99.cell? ⟨gb469,0,none⟩ = some (.string t462):=(bL BK469.out 0).trans rfl;have hcz105_1:w99.cell? ⟨gb469,1,none⟩ = some (.slice Ao97 t463.length co97):=(bL BK469.out 1).trans rfl;have hcz105_2:w99.cell? ⟨gb469,2,none⟩ = some (.bool t466):=(bL BK469.out 2).trans rfl;have hcz105_3:w99.cell? ⟨gb469,3,none⟩ = some (.string t467):=(bL BK469.out 3).trans rfl;have hfz105_0:=bZ BK469.out 0;have hfz105_1:=bZ BK469.out 1;have hfz105_2:=bZ BK469.out 2;have hfz105_3:=bZ BK469.out 3;have hnb106:=NB458_450.out;have hnc106:=NB450_458.out;have hcz107_0:w99.cell? ⟨gb458,0,none⟩ = some (.string t451):=(bL BK458.out 0).trans rfl;have hcz107_1:w99.cell? ⟨gb458,1,none⟩ = some (.slice Ao16 t452.length co16):=(bL BK458.out 1).trans rfl;have hcz107_2:w99.cell? ⟨gb458,2,none⟩ = some (.bool t455):=(bL BK458.out 2).trans rfl;have hcz107_3:w99.cell? ⟨gb458,3,none⟩ = some (.string t456):=(bL BK458.out 3).trans rfl;have hfz107_0:=bZ BK458.out 0;have hfz107_1:=bZ BK458.out 1;have hfz107_2:=bZ BK458.out 2;have hfz107_3:=bZ BK458.out 3)|(go_at_call 14;(with_reducible refine (laws_lpAddr.calls kj5 t462 _ _ t463 t466 t467 t451 _ _ t452 t455 t456 false _ ?side1 ?side2 ?side3 ?side4 A51.out).mono ?_);(case side1=>refine (Kd.R_reads' (e:=9) (base:=w.heap.size) (ok:=fun k_=>(((True ∧ some k_ ≠ (.slice Ao11 t444.length co11:Value).ownBlock) ∧ some k_ ≠ (.slice Ao16 t452.length co16:Value).ownBlock) ∧ some k_ ≠ (.slice Ao104 t471.length co104:Value).ownBlock)) (n:=t463.length) (c:=co97) ?_).2.2;exact (by (with_reducible repeat (first|apply rA|apply rN|apply rD));exact (bQ HO465.out BK477.out (by decide) _ _ _ _)));(case side2=>exact (Kd.R_reads' HO465.out).2.1);(case side3=>refine (Kd.R_reads' (e:=9) (base:=w.heap.size) (ok:=fun k_=>((some k_ ≠ (.slice Ao11 t444.length co11:Value).ownBlock ∧ some k_ ≠ (.slice Ao97 t463.length co97:Value).ownBlock) ∧ some k_ ≠ (.slice Ao104 t471.length co104:Value).ownBlock)) (n:=t452.length) (c:=co16) ?_).2.2;exact (by (with_reducible repeat (first|apply rA|apply rN|apply rD));exact (bQ HO_459001.out BK477.out (by decide) _ _ _ _)));(case side4=>exact (Kd.R_reads' HO_459001.out).2.1);rintro e w108 ⟨rfl,hb⟩;have n0_:=Am (Kd.R_below (by (with_reducible repeat (first|apply rA|apply rN|apply rD));exact (bQ HO_451001.out BK477.out (by decide) _ _ _ _)) hb);have n1_:=Am (Kd.R_below (by (with_reducible repeat (first|apply rA|apply rN|apply rD));exact (bQ HO_459001.out BK477.out (by decide) _ _ _ _)) hb);have n2_:=Am (Kd.R_below (by (with_reducible repeat (first|apply rA|apply rN|apply rD));exact (bQ HO465.out BK477.out (by decide) _ _ _ _)) hb);have n3_:=Am (Kd.R_below (by (with_reducible repeat (first|apply rA|apply rN|apply rD));exact (bQ HO473.out BK477.out (by decide) _ _ _ _)) hb);have n4_:=Am (blk_below (g:=gb450) (o:=.cells #[.string t443, .slice Ao11 t444.length co11, .bool t447, .string t448] 25 (0,0)) (by refine bB ?_;refine bF ?_ NB450_477.out;refine bB ?_;exact BK450.out) hb);have n5_:=Am (blk_below (g:=gb458) (o:=.cells #[.string t451, .slice Ao16 t452.length co16, .bool t455, .string t456] 25 (0,0)) (by refine bB ?_;refine bF ?_ NB458_477.out;refine bB ?_;exact BK458.out) hb);have n6_:=Am (blk_below (g:=gb469) (o:=.cells #[.string t462, .slice Ao97 t463.length co97, .bool t466, .string t467] 25 (0,0)) (by refine bB ?_;refine bF ?_ NB469_477.out;refine bB ?_;exact BK469.out) hb);have n7_:=Am (blk_below (g:=gb477) (o:=.cells #[.string t470, .slice Ao104 t471.length co104, .bool t474, .string t475] 25 (0,0)) (by refine bB ?_;apply bP;refine bB ?_;exact BK477.out) hb);have n8_:=Am (bT (by repeat (first|(with_reducible first|exact HB.out|apply bA|apply bN|apply bD|refine bS ?_ GE450.out|refine bS ?_ GE458.out|refine bS ?_ GE469.out|refine bS ?_ GE477.out)|exact HB.out)) hb);clear HO_451001 HO_459001 HO465 HO473 BK450 BK458 BK469 BK477 HB;have HO_451001:=n0_;have HO_459001:=n1_;have HO465:=n2_;have HO473:=n3_;have BK450:=n4_;have BK458:=n5_;have BK469:=n6_;have BK477:=n7_;have HB:=n8_;clear n0_ n1_ n2_ n3_ n4_ n5_ n6_ n7_ n8_;(try clear hb)))
         go_ret
         exact ⟨by first|rfl|(simp <;> rfl)|(simp [*] <;> rfl),by repeat (first|(with_reducible first|exact HB.out|apply bA|apply bN|apply bD|refine bS ?_ GE450.out|refine bS ?_ GE458.out|refine bS ?_ GE469.out|refine bS ?_ GE477.out)|exact HB.out)⟩
       ·replace c50:=Bool.eq_false_iff.mpr c50
        subst c50
        have H1:(some false) = some r:=by rw [if_neg (show ¬ (false = true) by decide)] at H;exact H
        clear H
        have H:=H1
        clear H1
        obtain rfl:=Option.some.inj H
        go_wp2_with (first|((with_reducible refine gate_callee (f:=26) rfl ?_);refine goesL_ (some 62) rfl rfl Tryd.func26 (by kernel_rfl) rfl #[.string (t442 ++ (⟨#[47]⟩:ByteArray))] rfl (aE1 rfl) ?_;(with_reducible refine (impl_AddrRead.calls kj5 (t442 ++ (⟨#[47]⟩:ByteArray)) t462 t463 t466 t467 false _ A47.out).mono ?_);rintro e w109 ⟨v464,rfl,ho0,hb⟩;refine ⟨_,rfl,?_⟩;have n0_:=Am (Kd.R_elder' (bR HO_451001.out) (Kd.R_base ho0) hb);have n1_:=Am (Kd.R_elder' (bR HO_459001.out) (Kd.R_base ho0) hb);have n2_:=Am (Kd.R_lower (Kd.R_new' (Kd.R_new' ho0 (Kd.R_lt (bR HO_451001.out))) (Kd.R_lt (bR HO_459001.out))) (bU (by repeat (first|(with_reducible first|exact HB.out|apply bA|apply bN|apply bD|refine bS ?_ GE450.out|refine bS ?_ GE458.out)|exact HB.out))));have n3_:=Am (blk_below (bB BK450.out) hb);have n4_:=Am (blk_below (bB BK458.out) hb);have n5_:=Am (bT (by repeat (first|(with_reducible first|exact HB.out|apply bA|apply bN|apply bD|refine bS ?_ GE450.out|refine bS ?_ GE458.out)|exact HB.out)) hb);clear HO_451001 HO_459001 BK450 BK458 HB;have HO_451001:=n0_;have HO_459001:=n1_;have HO465:=n2_;have BK450:=n3_;have BK458:=n4_;have HB:=n5_;clear n0_ n1_ n2_ n3_ n4_ n5_;(try clear hb);(try clear ho0))|((with_reducible refine gate_dst (N:=8) rfl ?_);(try (refine gate_guard (by rfl) ?_;dsimp only));refine box_event ?hg (N:=8) ?hd (cs:=#[.string (⟨#[]⟩:ByteArray), .slice none 0 0, .bool false, .string (⟨#[]⟩:ByteArray)]) (t:=25) ?hr ?_;(case hd=>rfl);(case hg=>rfl);(case hr=>first|(go_simp;done)|(go_simp;rfl));intro gb469 hg w110 hbox hb;have n0_:=Am (Kd.R_below (bR HO_451001.out) hb);have n1_:=Am (Kd.R_below (bR HO_459001.out) hb);have n2_:=Am (Kd.R_below (bR HO465.out) hb);have n3_:=Am (blk_below (bB BK450.out) hb);have n4_:=Am (blk_below (bB BK458.out) hb);have n5_:=Am (bT (by repeat (first|(with_reducible first|exact HB.out|apply bA|apply bN|apply bD|refine bS ?_ GE450.out|refine bS ?_ GE458.out)|exact HB.out)) hb);have n6_:=Am (hbox);have n7_:=Am ((by rw [hg];exact (bU (by repeat (first|(with_reducible first|exact HB.out|apply bA|apply bN|apply bD|refine bS ?_ GE450.out|refine bS ?_ GE458.out)|exact HB.out))):w.heap.size ≤ gb469));have n8_:=n7_;have n9_:=Am ((by rw [hg];exact Nat.ne_of_lt (blk_lt (bB BK450.out)):gb450 ≠ gb469));have n10_:=Am ((by rw [hg];exact Nat.ne_of_gt (blk_lt (bB BK450.out)):gb469 ≠ gb450));have n11_:=Am ((by rw [hg];exact Nat.ne_of_lt (blk_lt (bB BK458.out)):gb458 ≠ gb469));have n12_:=Am ((by rw [hg];exact Nat.ne_of_gt (blk_lt (bB BK458.out)):gb469 ≠ gb458));clear HO_451001 HO_459001 HO465 BK450 BK458 HB;have HO_451001:=n0_;have HO_459001:=n1_;have HO465:=n2_;have BK450:=n3_;have BK458:=n4_;have HB:=n5_;have BK469:=n6_;have GW469:=n7_;have GE469:=n8_;have NB450_469:=n9_;have NB469_450:=n10_;have NB458_469:=n11_;have NB469_458:=n12_;clear n0_ n1_ n2_ n3_ n4_ n5_ n6_ n7_ n8_ n9_ n10_ n11_ n12_ hb hbox hg;have hnb111:=NB469_450.out;have hnc111:=NB450_469.out;have hnb112:=NB469_458.out;have hnc112:=NB458_469.out;have hcz113_0:w110.cell? ⟨gb469,0,none⟩ = some (.string (⟨#[]⟩:ByteArray)):=(bL BK469.out 0).trans rfl;have hcz113_1:w110.cell? ⟨gb469,1,none⟩ = some (.slice none 0 0):=(bL BK469.out 1).trans rfl;have hcz113_2:w110.cell? ⟨gb469,2,none⟩ = some (.bool false):=(bL BK469.out 2).trans rfl;have hcz113_3:w110.cell? ⟨gb469,3,none⟩ = some (.string (⟨#[]⟩:ByteArray)):=(bL BK469.out 3).trans rfl;have hfz113_0:=bZ BK469.out 0;have hfz113_1:=bZ BK469.out 1;have hfz113_2:=bZ BK469.out 2;have hfz113_3:=bZ BK469.out 3;obtain ⟨Ao114,co114,eo114⟩:=Kd.R_slice HO465.out;subst eo114)|((with_reducible refine gate_callee (f:=26) rfl ?_);refine goesL_ (some 68) rfl rfl Tryd.func26 (by kernel_rfl) rfl #[.string (t442 ++ (⟨#[47,46,47]⟩:ByteArray))] rfl (aE1 rfl) ?_;(with_reducible refine (impl_AddrRead.calls kj5 (t442 ++ (⟨#[47,46,47]⟩:ByteArray)) t470 t471 t474 t475 t476 _ A49.out).mono ?_);rintro e w115 ⟨v472,rfl,ho0,hb⟩;refine ⟨_,rfl,?_⟩;have n0_:=Am (Kd.R_elder' (by (with_reducible repeat (first|apply rA|apply rN|apply rD));exact (bQ HO_451001.out BK469.out (by decide) _ _ _ _)) (Kd.R_base ho0) hb);have n1_:=Am (Kd.R_elder' (by (with_reducible repeat (first|apply rA|apply rN|apply rD));exact (bQ HO_459001.out BK469.out (by decide) _ _ _ _)) (Kd.R_base ho0) hb);have n2_:=Am (Kd.R_elder' (by (with_reducible repeat (first|apply rA|apply rN|apply rD));exact (bQ HO465.out BK469.out (by decide) _ _ _ _)) (Kd.R_base ho0) hb);have n3_:=Am (Kd.R_lower (Kd.R_new' (Kd.R_new' (Kd.R_new' ho0 (Kd.R_lt (by (with_reducible repeat (first|apply rA|apply rN|apply rD));exact (bQ HO_451001.out BK469.out (by decide) _ _ _ _)))) (Kd.R_lt (by (with_reducible repeat (first|apply rA|apply rN|apply rD));exact (bQ HO_459001.out BK469.out (by decide) _ _ _ _)))) (Kd.R_lt (by (with_reducible repeat (first|apply rA|apply rN|apply rD));exact (bQ HO465.out BK469.out (by decide) _ _ _ _)))) (bU (by repeat (first|(with_reducible first|exact HB.out|apply bA|apply bN|apply bD|refine bS ?_ GE450.out|refine bS ?_ GE458.out|refine bS ?_ GE469.out)|exact HB.out))));have n4_:=Am (blk_below (g:=gb450) (o:=.cells #[.string t443, .slice Ao11 t444.length co11, .bool t447, .string t448] 25 (0,0)) (by refine bB ?_;refine bF ?_ NB450_469.out;refine bB ?_;exact BK450.out) hb);have n5_:=Am (blk_below (g:=gb458) (o:=.cells #[.string t451, .slice Ao16 t452.length co16, .bool t455, .string t456] 25 (0,0)) (by refine bB ?_;refine bF ?_ NB458_469.out;refine bB ?_;exact BK458.out) hb);have n6_:=Am (blk_below (g:=gb469) (o:=.cells #[.string t462, .slice Ao114 t463.length co114, .bool t466, .string t467] 25 (0,0)) (by refine bB ?_;apply bP;refine bB ?_;exact BK469.out) hb);have n7_:=Am (bT (by repeat (first|(with_reducible first|exact HB.out|apply bA|apply bN|apply bD|refine bS ?_ GE450.out|refine bS ?_ GE458.out|refine bS ?_ GE469.out)|exact HB.out)) hb);clear HO_451001 HO_459001 HO465 BK450 BK458 BK469 HB;have HO_451001:=n0_;have HO_459001:=n1_;have HO465:=n2_;have HO473:=n3_;have BK450:=n4_;have BK458:=n5_;have BK469:=n6_;have HB:=n7_;clear n0_ n1_ n2_ n3_ n4_ n5_ n6_ n7_;(try clear hb);(try clear ho0))|((with_reducible refine gate_dst (N:=10) rfl ?_);(try (refine gate_guard (by rfl) ?_;dsimp only));refine box_event ?hg (N:=10) ?hd (cs:=#[.string (⟨#[]⟩:ByteArray), .slice none 0 0, .bool false, .string (⟨#[]⟩:ByteArray)]) (t:=25) ?hr ?_;(case hd=>rfl);(case hg=>rfl);(case hr=>first|(go_simp;done)|(go_simp;rfl));intro gb477 hg w116 hbox hb;have n0_:=Am (Kd.R_below (bR HO_451001.out) hb);have n1_:=Am (Kd.R_below (bR HO_459001.out) hb);have n2_:=Am (Kd.R_below (bR HO465.out) hb);have n3_:=Am (Kd.R_below (bR HO473.out) hb);have n4_:=Am (blk_below (bB BK450.out) hb);have n5_:=Am (blk_below (bB BK458.out) hb);have n6_:=Am (blk_below (bB BK469.out) hb);have n7_:=Am (bT (by repeat (first|(with_reducible first|exact HB.out|apply bA|apply bN|apply bD|refine bS ?_ GE450.out|refine bS ?_ GE458.out|refine bS ?_ GE469.out)|exact HB.out)) hb);have n8_:=Am (hbox);have n9_:=Am ((by rw [hg];exact (bU (by repeat (first|(with_reducible first|exact HB.out|apply bA|apply bN|apply bD|refine bS ?_ GE450.out|refine bS ?_ GE458.out|refine bS ?_ GE469.out)|exact HB.out))):w.heap.size ≤ gb477));have n10_:=n9_;have n11_:=Am ((by rw [hg];exact Nat.ne_of_lt (blk_lt (bB BK450.out)):gb450 ≠ gb477));have n12_:=Am ((by rw [hg];exact Nat.ne_of_gt (blk_lt (bB BK450.out)):gb477 ≠ gb450));have n13_:=Am ((by rw [hg];exact Nat.ne_of_lt (blk_lt (bB BK458.out)):gb458 ≠ gb477));have n14_:=Am ((by rw [hg];exact Nat.ne_of_gt (blk_lt (bB BK458.out)):gb477 ≠ gb458));have n15_:=Am ((by rw [hg];exact Nat.ne_of_lt (blk_lt (bB BK469.out)):gb469 ≠ gb477));have n16_:=Am ((by rw [hg];exact Nat.ne_of_gt (blk_lt (bB BK469.out)):gb477 ≠ gb469));clear HO_451001 HO_459001 HO465 HO473 BK450 BK458 BK469 HB;have HO_451001:=n0_;have HO_459001:=n1_;have HO465:=n2_;have HO473:=n3_;have BK450:=n4_;have BK458:=n5_;have BK469:=n6_;have HB:=n7_;have BK477:=n8_;have GW477:=n9_;have GE477:=n10_;have NB450_477:=n11_;have NB477_450:=n12_;have NB458_477:=n13_;have NB477_458:=n14_;have NB469_477:=n15_;have NB477_469:=n16_;clear n0_ n1_ n2_ n3_ n4_ n5_ n6_ n7_ n8_ n9_ n10_ n11_ n12_ n13_ n14_ n15_ n16_ hb hbox hg;have hnb117:=NB477_450.out;have hnc117:=NB450_477.out;have hnb118:=NB477_458.out;have hnc118:=NB458_477.out;have hnb119:=NB477_469.out;have hnc119:=NB469_477.out;have hcz120_0:w116.cell? ⟨gb477,0,none⟩ = some (.string (⟨#[]⟩:ByteArray)):=(bL BK477.out 0).trans rfl;have hcz120_1:w116.cell? ⟨gb477,1,none⟩ = some (.slice none 0 0):=(bL BK477.out 1).trans rfl;have hcz120_2:w116.cell? ⟨gb477,2,none⟩ = some (.bool false):=(bL BK477.out 2).trans rfl;have hcz120_3:w116.cell? ⟨gb477,3,none⟩ = some (.string (⟨#[]⟩:ByteArray)):=(bL BK477.out 3).trans rfl;have hfz120_0:=bZ BK477.out 0;have hfz120_1:=bZ BK477.out 1;have hfz120_2:=bZ BK477.out 2;have hfz120_3:=bZ BK477.out 3;obtain ⟨Ao121,co121,eo121⟩:=Kd.R_slice HO473.out;subst eo121))
        go_ret
        exact ⟨by first|rfl|(simp <;> rfl)|(simp [*] <;> rfl),by repeat (first|(with_reducible first|exact HB.out|apply bA|apply bN|apply bD|refine bS ?_ GE450.out|refine bS ?_ GE458.out|refine bS ?_ GE469.out|refine bS ?_ GE477.out)|exact HB.out)⟩
      ·rw [if_neg c48] at H
       exact absurd H (by simp)
     ·rw [if_neg c46] at H
      exact absurd H (by simp)

def laws_FnAddrStroke.Pure:Prop:=∀ (l0:List Int),l0.length ≤ maxLen → l0.length * 1 ≤ 140737488351232 → (∀ x ∈ l0,(Lit.int .u8 x).wf = true) → ∃ k,laws_FnAddrStroke.f k l0 = some true
end Go.Proofs.YtbnnamjaljohiaaDoor.P
