-- Written by a program of this session (patch_print.py over the kit's print; given texts in wip/given).
-- Cut down by a program of this session (wip/tools/prune.py) to what its claim can name.
import Derived.Test.YtbnnamjaljohiaaDoorSq
import Derived.Test.YtbnnamjaljohiaaDoorPx0
import Derived.Test.YtbnnamjaljohiaaDoorPx1
import Derived.Test.YtbnnamjaljohiaaDoorPx2
import Derived.Test.YtbnnamjaljohiaaDoorPx3
namespace Go.Proofs.YtbnnamjaljohiaaDoor.P
open Go.RowKit Go.Proofs.YtbnnamjaljohiaaDoorW.PrintWords Go.Proofs.YtbnnamjaljohiaaDoorW.PrintLast Go.Proofs.YtbnnamjaljohiaaDoorW.PrintMore
attribute [local go_sem] max2_int min2_int max_two min_two max_three min_three max_four min_four   -- for this text's walks alone
set_option linter.unusedVariables false
set_option linter.unusedSimpArgs false
set_option maxHeartbeats 8000000
set_option maxRecDepth 100000

/-! ### spec_l71Addr: function 57 -/
def spec_l71Addr.l0:Nat → Int → List Int → Int → ByteArray → List ByteArray → Bool → ByteArray → Option (ByteArray × Int)
 | 0,_,_,_,_,_,_,_=>none
 | k + 1,x4,x1000,x1001,x234000,x234001,x234002,x234003=>if x4 > 0 then ((spec_l6Rd_of.f k x1000 x1001 (([(⟨#[97]⟩:ByteArray),(⟨#[98]⟩:ByteArray),(⟨#[99]⟩:ByteArray),(⟨#[110,111,116,105,99,101]⟩:ByteArray)]:List ByteArray))).bind fun bt239=>(if x234001.length < 8796093022208 then (spec_l71Addr.l0 k (wrap64 (x4 - 1)) x1000 bt239.2 x234000 (x234001 ++ [bt239.1]) x234002 x234003) else (none))) else ((spec_l6Rd_pick.f k x1000 x1001 8).bind fun bt244=>(if bt244.1 = 0 then ((spec_l6Rd_of.f k x1000 bt244.2 (([(⟨#[]⟩:ByteArray),(⟨#[97]⟩:ByteArray),(⟨#[98,37,51,68]⟩:ByteArray)]:List ByteArray))).bind fun bt249=>((spec_AddrText.f k x234000 x234001 true bt249.1).bind fun t251=>(some (t251,bt249.2)))) else ((spec_AddrText.f k x234000 x234001 x234002 x234003).bind fun t252=>(some (t252,bt244.2)))))
def spec_l71Addr.f (k:Nat) (s0_0:List Int) (s0_1:Int):Option (ByteArray × Int):=(spec_l71Houses.f).bind fun t227=>((spec_l6Rd_pick.f k s0_0 s0_1 4).bind fun bt230=>(if 0 ≤ bt230.1 then (if bt230.1 < (t227.length:Int) then ((spec_l6Rd_pick.f k s0_0 bt230.2 3).bind fun bt234=>(spec_l71Addr.l0 k bt234.1 s0_0 bt234.2 (rdOf ByteArray.empty t227 bt230.1) ([]:List ByteArray) false (⟨#[]⟩:ByteArray))) else (none)) else (none)))
theorem spec_l71Addr.mono_l:∀ k,(∀ y0 y1 y2 y3 y4 y5 y6,LeO (spec_l71Addr.l0 k y0 y1 y2 y3 y4 y5 y6) (spec_l71Addr.l0 (k + 1) y0 y1 y2 y3 y4 y5 y6))
 | 0=>fun _ _ _ _ _ _ _ r h=>by simp [spec_l71Addr.l0] at h
 | k + 1=>by
  have ih0:=spec_l71Addr.mono_l k
  ·intro y0 y1 y2 y3 y4 y5 y6
   unfold spec_l71Addr.l0
   repeat' first
   | (with_reducible apply ih0)
   | (with_reducible apply spec_AddrText.mono)
   | (with_reducible apply spec_l6Rd_of.mono)
   | (with_reducible apply spec_l6Rd_pick.mono)
   | (with_reducible exact LeO.refl _)
   | (with_reducible exact LeO.none _)
   | (with_reducible refine LeO.ite ?_ ?_)
   | (with_reducible refine LeO.bind ?_ (fun _=>?_))







theorem spec_l71Addr.mono:∀ a0 a1 k,LeO (spec_l71Addr.f k a0 a1) (spec_l71Addr.f (k + 1) a0 a1):=by
 intro a0 a1 k
 have ih0:=spec_l71Addr.mono_l k
 unfold spec_l71Addr.f
 repeat' first
   | (with_reducible apply ih0)
   | (with_reducible apply spec_AddrText.mono)
   | (with_reducible apply spec_l6Rd_of.mono)
   | (with_reducible apply spec_l6Rd_pick.mono)
   | (with_reducible exact LeO.refl _)
   | (with_reducible exact LeO.none _)
   | (with_reducible refine LeO.ite ?_ ?_)
   | (with_reducible refine LeO.bind ?_ (fun _=>?_))







def spec_l71Addr.T5:Bool × List (List Nat × List Nat):=(true,[([],[]),([0],[0]),([],[]),([],[]),([2,3],[2,3]),([4],[4]),([1,5,4],[1,5]),([0,1,2,3,4,5,6],[]),([7,6,6,0,1,2,3,4,5,6],[6,7])])
def spec_l71Addr.B5:List Nat:=[0,1,0,0,12,28,63,127,255]
theorem spec_l71Addr.tab5:rtab .any (opsOf Tryd.f57 5) = spec_l71Addr.T5:=by kernel_rfl
theorem spec_l71Addr.bits5:waitsOk spec_l71Addr.T5.2 spec_l71Addr.B5 = true:=by kernel_rfl
theorem spec_l71Addr.calls (k:Nat) (g:Nat) (s0_0:List Int) (s0_1:Int) (r1:ByteArray) (r2:Int) (w0 w:World) (hI:IsS60 w0 w g s0_0 s0_1) (hB:Below w0.heap.size w0 w) (h:spec_l71Addr.f k s0_0 s0_1 = some (r1,r2)) :
  Calls Tryd.prog 57 #[.pointer (some ⟨g,0,none⟩)] w fun e w'=>e = .returned (.string r1) ∧ IsS60 w0 w' g s0_0 r2 ∧ Below w0.heap.size w0 w' ∧ KeepBut w w' g none:=by
 have hu25:=Tryd.underlying25
 have HI0:=Am hI
 have HK:=Am (KeepBut.refl w g none)
 have HL:=Am hB.size
 clear hI
 have HW0:=Am hB.size
 have HB:=Am hB
 clear hB
 have H:((spec_l71Houses.f).bind fun t227=>((spec_l6Rd_pick.f k s0_0 s0_1 4).bind fun bt230=>(if 0 ≤ bt230.1 then (if bt230.1 < (t227.length:Int) then ((spec_l6Rd_pick.f k s0_0 bt230.2 3).bind fun bt234=>(spec_l71Addr.l0 k bt234.1 s0_0 bt234.2 (rdOf ByteArray.empty t227 bt230.1) ([]:List ByteArray) false (⟨#[]⟩:ByteArray))) else (none)) else (none)))) = some (r1,r2):=h
 clear h
 replace H:=bI H
 obtain ⟨t227,A20,H⟩:=H
 replace H:((spec_l6Rd_pick.f k s0_0 s0_1 4).bind fun bt230=>(if 0 ≤ bt230.1 then (if bt230.1 < (t227.length:Int) then ((spec_l6Rd_pick.f k s0_0 bt230.2 3).bind fun bt234=>(spec_l71Addr.l0 k bt234.1 s0_0 bt234.2 (rdOf ByteArray.empty t227 bt230.1) ([]:List ByteArray) false (⟨#[]⟩:ByteArray))) else (none)) else (none))) = some (r1,r2):=H
 have A2:=Am A20
 clear A20
 replace H:=bI H
 obtain ⟨⟨t230,t231⟩,A30,H⟩:=H
 replace H:(if 0 ≤ t230 then (if t230 < (t227.length:Int) then ((spec_l6Rd_pick.f k s0_0 t231 3).bind fun bt234=>(spec_l71Addr.l0 k bt234.1 s0_0 bt234.2 (rdOf ByteArray.empty t227 t230) ([]:List ByteArray) false (⟨#[]⟩:ByteArray))) else (none)) else (none)) = some (r1,r2):=H
 have A3:=Am A30
 clear A30
 by_cases c4:0 ≤ t230
 ·rw [if_pos c4] at H
  have c4b0:decide (0 ≤ t230) = true:=decide_eq_true c4
  clear c4
  by_cases c5:t230 < (t227.length:Int)
  ·rw [if_pos c5] at H
   have c5b0:decide (t230 < (t227.length:Int)) = true:=decide_eq_true c5
   clear c5
   replace H:=bI H
   obtain ⟨⟨t234,t235⟩,A60,H⟩:=H
   replace H:(spec_l71Addr.l0 k t234 s0_0 t235 (rdOf ByteArray.empty t227 t230) ([]:List ByteArray) false (⟨#[]⟩:ByteArray)) = some (r1,r2):=H
   have A6:=Am A60
   clear A60
   have H':=Am H
   clear H
   go_enter Tryd.func57,Tryd.ntmps57
   go_wp2_with (first|((with_reducible refine gate_callee (f:=75) rfl ?_);refine goesL_ (some 5) rfl rfl Tryd.func75 (by kernel_rfl) rfl #[] rfl (by (try simp only [List.map_toArray,List.map_cons,List.map_nil]);first|done|rfl|(simp only [List.length_drop,List.length_take];rfl)) ?_;(with_reducible refine (spec_l71Houses.calls  t227 _ A2.out).mono ?_);rintro e w7 ⟨v228,rfl,ho0,hb⟩;refine ⟨_,rfl,?_⟩;have n0_:=Am (Kd.R_lower ho0 (keep_size (w:=w) (g:=g) (row:=none) (by repeat (first|(with_reducible first|exact HK.out|apply KeepBut.set_|apply kN|apply kD|apply kA)|exact HK.out))));have n1_:=Am (IsS60.below (by repeat (first|(with_reducible first|exact HI0.out|apply IsS60.alloc|apply IsS60.drewN|apply IsS60.drew|apply IsS60.set_1)|exact HI0.out)) hb);have n2_:=Am (KeepBut.trans (by repeat (first|(with_reducible first|exact HK.out|apply KeepBut.set_|apply kN|apply kD|apply kA)|exact HK.out)) (KeepBut.of_below hb g none) (.inl rfl));have n3_:=Am (bT (by repeat (first|(with_reducible first|exact HB.out|apply bA|apply bN|apply bD|refine bS ?_ (IsS60.ge HI0.out))|exact HB.out)) hb);clear HI0 HK HB;have HO229:=n0_;have HI0:=n1_;have HK:=n2_;have HB:=n3_;clear n0_ n1_ n2_ n3_;(try clear hb);(try clear ho0))|((with_reducible refine gate_callee (f:=52) rfl ?_);refine goesL_ (some 7) rfl rfl Tryd.func52 (by kernel_rfl) rfl #[.pointer (some ⟨g,0,none⟩), .int .i64 4] rfl (aE2 rfl rfl) ?_;(with_reducible refine (spec_l6Rd_pick.calls k g s0_0 s0_1 4 t230 t231 w0 _ ?side1 ?side2 A3.out).mono ?_);(case side1=>repeat (first|(with_reducible first|exact HI0.out|apply IsS60.alloc|apply IsS60.drewN|apply IsS60.drew|apply IsS60.set_1)|exact HI0.out));(case side2=>repeat (first|(with_reducible first|exact HB.out|apply bA|apply bN|apply bD|refine bS ?_ (IsS60.ge HI0.out))|exact HB.out));rintro e w8 ⟨rfl,hi,hb,hk⟩;refine ⟨_,rfl,?_⟩;have n0_:=Am (Kd.R_mono (Kd.R_keep (IsS60.apart (show IsS60 w0 _ g s0_0 s0_1 from by repeat (first|(with_reducible first|exact HI0.out|apply IsS60.alloc|apply IsS60.drewN|apply IsS60.drew|apply IsS60.set_1)|exact HI0.out)) (bR HO229.out) (by decide)) hk (fun _ h=>h.2)) (fun _ h=>h.1));have n1_:=Am (KeepBut.trans (by repeat (first|(with_reducible first|exact HK.out|apply KeepBut.set_|apply kN|apply kD|apply kA)|exact HK.out)) hk (.inl rfl));have n2_:=Am (hb);have n3_:=Am (hi);clear HO229 HK HB HI0;have HO229:=n0_;have HK:=n1_;have HB:=n2_;have HI0:=n3_;clear n0_ n1_ n2_ n3_;(try clear hb hk hi);obtain ⟨Ao9,co9,eo9⟩:=Kd.R_slice HO229.out;subst eo9;have p232:0 ≤ (t230:Int):=oD (by assumption);have q232:t230 < (t227.length:Int):=oD (by assumption);obtain ⟨ad232,e232,hx232_0⟩:=Kd.at_string (Kd.R_reads' HO229.out).2.2 t230 p232 q232;cases e232;replace p232:=eq_true p232;replace q232:=eq_true q232)|((with_reducible refine gate_dst (N:=3) rfl ?_);refine box_event ?hg (N:=3) ?hd (cs:=#[.string (⟨#[]⟩:ByteArray), .slice none 0 0, .bool false, .string (⟨#[]⟩:ByteArray)]) (t:=25) ?hr ?_;(case hd=>rfl);(case hg=>rfl);(case hr=>(go_simp <;> rfl));intro gb233 hg w10 hbox hb;have n0_:=bH HO229 hb;have n1_:=Am (IsS60.below (by repeat (first|(with_reducible first|exact HI0.out|apply IsS60.alloc|apply IsS60.drewN|apply IsS60.drew|apply IsS60.set_1)|exact HI0.out)) hb);have n2_:=Am (KeepBut.trans (by repeat (first|(with_reducible first|exact HK.out|apply KeepBut.set_|apply kN|apply kD|apply kA)|exact HK.out)) (KeepBut.of_below hb g none) (.inl rfl));have n3_:=Am (bT (by repeat (first|(with_reducible first|exact HB.out|apply bA|apply bN|apply bD|refine bS ?_ (IsS60.ge HI0.out))|exact HB.out)) hb);have n4_:=Am (hbox);have n5_:=Am ((by rw [hg];exact (keep_size (w:=w) (g:=g) (row:=none) (by repeat (first|(with_reducible first|exact HK.out|apply KeepBut.set_|apply kN|apply kD|apply kA)|exact HK.out))):w.heap.size ≤ gb233));have n6_:=Am ((Nat.le_trans HW0.out (by rw [hg];exact (keep_size (w:=w) (g:=g) (row:=none) (by repeat (first|(with_reducible first|exact HK.out|apply KeepBut.set_|apply kN|apply kD|apply kA)|exact HK.out))):w.heap.size ≤ gb233):w0.heap.size ≤ gb233));have n7_:=Am ((by rw [hg];exact Nat.ne_of_lt (IsS60.lt (show IsS60 w0 _ g s0_0 t231 from by repeat (first|(with_reducible first|exact HI0.out|apply IsS60.alloc|apply IsS60.drewN|apply IsS60.drew|apply IsS60.set_1)|exact HI0.out))):g ≠ gb233));have n8_:=Am ((by rw [hg];exact Nat.ne_of_gt (IsS60.lt (show IsS60 w0 _ g s0_0 t231 from by repeat (first|(with_reducible first|exact HI0.out|apply IsS60.alloc|apply IsS60.drewN|apply IsS60.drew|apply IsS60.set_1)|exact HI0.out))):gb233 ≠ g));clear HO229 HI0 HK HB;have HO229:=n0_;have HI0:=n1_;have HK:=n2_;have HB:=n3_;have BK233:=n4_;have GW233:=n5_;have GE233:=n6_;have NB0_233:=n7_;have NB233_0:=n8_;clear n0_ n1_ n2_ n3_ n4_ n5_ n6_ n7_ n8_ hb hbox hg;have hnb11:=NB233_0.out;have hnc11:=NB0_233.out;obtain ⟨hcz12_0,hcz12_1,hcz12_2,hcz12_3,hfz12_0,hfz12_1,hfz12_2,hfz12_3⟩:=bX BK233.out)|((with_reducible refine gate_callee (f:=52) rfl ?_);refine goesL_ (some 12) rfl rfl Tryd.func52 (by kernel_rfl) rfl #[.pointer (some ⟨g,0,none⟩), .int .i64 3] rfl (aE2 rfl rfl) ?_;(with_reducible refine (spec_l6Rd_pick.calls k g s0_0 t231 3 t234 t235 w0 _ ?side1 ?side2 A6.out).mono ?_);(case side1=>repeat (first|(with_reducible first|exact HI0.out|apply IsS60.alloc|apply IsS60.drewN|apply IsS60.drew|apply IsS60.set_1|refine IsS60.far ?_ NB0_233.out _)|exact HI0.out));(case side2=>repeat (first|(with_reducible first|exact HB.out|apply bA|apply bN|apply bD|refine bS ?_ (IsS60.ge HI0.out)|refine bS ?_ GE233.out)|exact HB.out));rintro e w13 ⟨rfl,hi,hb,hk⟩;refine ⟨_,rfl,?_⟩;have n0_:=Am (Kd.R_mono (Kd.R_keep (IsS60.apart (show IsS60 w0 _ g s0_0 t231 from by repeat (first|(with_reducible first|exact HI0.out|apply IsS60.alloc|apply IsS60.drewN|apply IsS60.drew|apply IsS60.set_1|refine IsS60.far ?_ NB0_233.out _)|exact HI0.out)) (by (with_reducible repeat (first|apply rA|apply rN|apply rD));exact (bQ HO229.out BK233.out (by decide) _ _ _ _)) (by decide)) hk (fun _ h=>h.2)) (fun _ h=>h.1));have n1_:=Am (KeepBut.blk hk (g':=gb233) (o:=.cells #[.string (rdOf ByteArray.empty t227 t230), .slice none 0 0, .bool false, .string (⟨#[]⟩:ByteArray)] 25 (0,0)) (by refine bB ?_;apply bP;refine bB ?_;exact BK233.out) NB233_0.out (by simp));have n2_:=Am (KeepBut.trans (by repeat (first|(with_reducible first|exact HK.out|apply KeepBut.set_|apply kN|apply kD|apply kA|refine keep_far ?_ GW233.out _)|exact HK.out)) hk (.inl rfl));have n3_:=Am (hb);have n4_:=Am (hi);clear HO229 BK233 HK HB HI0;have HO229:=n0_;have BK233:=n1_;have HK:=n2_;have HB:=n3_;have HI0:=n4_;clear n0_ n1_ n2_ n3_ n4_;(try clear hb hk hi)))
   go_loopg [4] k (fun kq v4 w'=>∃ (x4_1:Int) (x1001_1:Int) (x234001_1:List ByteArray) (u234001:Value),v4 = .int .i64 x4_1 ∧ Aside0 (spec_l71Addr.l0 kq x4_1 s0_0 x1001_1 (rdOf ByteArray.empty t227 t230) x234001_1 false (⟨#[]⟩:ByteArray) = some (r1,r2)) ∧ Aside0 (kq ≤ k) ∧ Aside0 (Kd.R Kd.string 9 w' w.heap.size (fun _=>True) u234001 x234001_1) ∧ Aside0 (w'.heap[gb233]? = some (.cells #[.string (rdOf ByteArray.empty t227 t230),u234001, .bool false, .string (⟨#[]⟩:ByteArray)] 25 (0,0))) ∧ Aside0 (IsS60 w0 w' g s0_0 x1001_1) ∧ Aside0 (KeepBut w w' g none) ∧ Aside0 (Below w0.heap.size w0 w'))
   case atStart=>exact ⟨(t234),(t235),(([]:List ByteArray)),(.slice none 0 0),(by first|rfl|(simp;done)|(simp only [i64_w,i32_w] <;> rfl)|(simp [*];done)|(simp [emp_bne,emp_beq];done)),H',⟨Nat.le_refl _⟩,⟨by first|exact Kd.R_nil _ _ _ _ _|exact Kd.N_nil _ _ _ _ _|exact Kd.V_nil _ _ _ _ _|exact Kd.Q_nil _ _ _ _ _|exact Kd.S_nil _ _ _ _ _⟩,⟨by refine bB ?_;exact BK233.out⟩,⟨by repeat (first|(with_reducible first|exact HI0.out|apply IsS60.alloc|apply IsS60.drewN|apply IsS60.drew|apply IsS60.set_1|refine IsS60.far ?_ NB0_233.out _)|exact HI0.out)⟩,⟨by repeat (first|(with_reducible first|exact HK.out|apply KeepBut.set_|apply kN|apply kD|apply kA|refine keep_far ?_ GW233.out _)|exact HK.out)⟩,⟨by repeat (first|(with_reducible first|exact HB.out|apply bA|apply bN|apply bD|refine bS ?_ (IsS60.ge HI0.out)|refine bS ?_ GE233.out)|exact HB.out)⟩⟩
   case round =>
    clear H'
    try clear c1
    try clear p2
    try clear q2
    try clear hx2
    try clear c4
    try clear c4b0
    try clear c5
    try clear c5b0
    try clear c7
    try clear c11
    try clear hcz12_0
    try clear hcz12_1
    try clear hcz12_2
    try clear hcz12_3
    try clear hfz12_0
    try clear hfz12_1
    try clear hfz12_2
    try clear hfz12_3
    try clear hx232_0
    try clear p232
    try clear q232
    obtain ⟨x4_1,x1001_1,x234001_1,u234001,rfl,HA,HK1,HO_234001,BK233,HI0,HK,HB⟩:=hrel
    cases gk with
    | zero=>exact absurd HA.out (by simp [spec_l71Addr.l0])
    | succ k1 =>
     have H:=HA.out
     clear HA
     simp only [spec_l71Addr.l0] at H
     by_cases c14:x4_1 > 0
     ·rw [if_pos c14] at H
      have c14b0:decide (0 < x4_1) = true:=decide_eq_true c14
      clear c14
      obtain ⟨y236,hy236⟩:∃ y_:List ByteArray,y_ = (([(⟨#[97]⟩:ByteArray),(⟨#[98]⟩:ByteArray),(⟨#[99]⟩:ByteArray),(⟨#[110,111,116,105,99,101]⟩:ByteArray)]:List ByteArray)):=⟨_,rfl⟩
      replace H:((spec_l6Rd_of.f k1 s0_0 x1001_1 y236).bind fun bt239=>(if x234001_1.length < 8796093022208 then (spec_l71Addr.l0 k1 (wrap64 (x4_1 - 1)) s0_0 bt239.2 (rdOf ByteArray.empty t227 t230) (x234001_1 ++ [bt239.1]) false (⟨#[]⟩:ByteArray)) else (none))) = some (r1,r2):=by first|(rw [hy236];with_reducible exact H)|(have H2_:=(Option.bind_some _ _).symm.trans H;rw [hy236];with_reducible exact H2_)|(have H2_:=(Option.bind_some _ _).symm.trans H;with_reducible exact H2_)|with_reducible exact H|(rw [hy236];exact H)|exact H
      have Ny236:=Am hy236
      clear hy236
      replace H:=bI H
      obtain ⟨⟨t239,t240⟩,A150,H⟩:=H
      replace H:(if x234001_1.length < 8796093022208 then (spec_l71Addr.l0 k1 (wrap64 (x4_1 - 1)) s0_0 t240 (rdOf ByteArray.empty t227 t230) (x234001_1 ++ [t239]) false (⟨#[]⟩:ByteArray)) else (none)) = some (r1,r2):=H
      have A15:=Am A150
      clear A150
      by_cases c16:x234001_1.length < 8796093022208
      ·rw [if_pos c16] at H
       have LMc16:=Am c16
       clear c16
       obtain ⟨y241,hy241⟩:∃ y_:List ByteArray,y_ = (x234001_1 ++ [t239]):=⟨_,rfl⟩
       replace H:(spec_l71Addr.l0 k1 (wrap64 (x4_1 - 1)) s0_0 t240 (rdOf ByteArray.empty t227 t230) y241 false (⟨#[]⟩:ByteArray)) = some (r1,r2):=by first|(rw [hy241];with_reducible exact H)|(have H2_:=(Option.bind_some _ _).symm.trans H;rw [hy241];with_reducible exact H2_)|(have H2_:=(Option.bind_some _ _).symm.trans H;with_reducible exact H2_)|with_reducible exact H|(rw [hy241];exact H)|exact H
       have Ny241:=Am hy241
       clear hy241
       have H':=Am H
       clear H
       try go_wp2
       have n0_:=Am (Kd.R_drew HO_234001.out)
       have n1_:=Am (blk_drew BK233.out)
       have n2_:=Am (IsS60.drew HI0.out)
       have n3_:=Am (keep_drew HK.out)
       have n4_:=Am (below_drew1 HB.out)
       clear HO_234001
       clear BK233
       clear HI0
       clear HK
       clear HB
       have HO_234001:=n0_
       have BK233:=n1_
       have HI0:=n2_
       have HK:=n3_
       have HB:=n4_
       clear n0_ n1_ n2_ n3_ n4_
       refine start_ (n:=9) (S:=fun w'=>w'.cell? ⟨gb233,0,none⟩ = some (.string (rdOf ByteArray.empty t227 t230)) ∧ w'.cell? ⟨gb233,1,none⟩ = some (u234001) ∧ w'.cell? ⟨gb233,2,none⟩ = some (.bool false) ∧ w'.cell? ⟨gb233,3,none⟩ = some (.string (⟨#[]⟩:ByteArray))) (ds:=[8]) #[false,false,false,false,false,false,false,false,false] (by kernel_rfl) rfl rfl ⟨bM BK233.out 0 rfl,bM BK233.out 1 rfl,bM BK233.out 2 rfl,bM BK233.out 3 rfl⟩ (fun hHeld=>?_);refine with_tabW spec_l71Addr.tab5 spec_l71Addr.bits5 (fun HT_ HW_=>?_)
       generalize wr.drew = w17 at HO_234001 BK233 HI0 HK HB hHeld ⊢
       refine pure_ (i:=0) (N:=some 17) (v:=?_) (a':=?_) #[true,false,false,false,false,false,false,false,false] rfl rfl (any_of HT_.out (by kernel_rfl)) (fun _ _ _ h=>h) (Or.inl ⟨by rfl,?_⟩) ?_ ?_
       rotate_left
       ·intro w'
        go_simp
        with_reducible rfl
       rotate_left
       ·simp only [Act.put,lT,lZ,lS,i64_w,i32_w]
        rfl
       refine pure_ (i:=2) (N:=some 19) (v:=?_) (a':=?_) #[true,false,true,false,false,false,false,false,false] rfl rfl (any_of HT_.out (by kernel_rfl)) (fun _ _ _ h=>h) (Or.inl ⟨by rfl,?_⟩) ?_ ?_
       rotate_left
       ·intro w'
        go_simp
        with_reducible rfl
       rotate_left
       ·simp only [Act.put,lT,lZ,lS,i64_w,i32_w]
        rfl
       refine take_ (i:=1) (N:=some 18) (v:=?_) (a':=?_) #[true,true,true,false,false,false,false,false,false] rfl rfl (take_ofW HT_.out HW_.out (by kernel_rfl)) (fun _ _ _ h=>h) (Or.inl ⟨by rfl,?_⟩) hHeld ?_ ?_
       rotate_left
       ·rintro w' ⟨s0,s1,s2,s3⟩
        go_simp
        with_reducible rfl
       rotate_left
       ·simp only [Act.put,lT,lZ,lS,i64_w,i32_w]
        rfl
       refine one_ (i:=3) (N:=some 20) #[true,true,true,true,false,false,false,false,false] rfl rfl (one_of HT_.out (by kernel_rfl)) (by decide) (fun K hK=>?_)
       refine Kd.R_lit_step Kd.string _ 9 ?hg (N:=20) ?hd (xs:=([(⟨#[97]⟩:ByteArray),(⟨#[98]⟩:ByteArray),(⟨#[99]⟩:ByteArray),(⟨#[110,111,116,105,99,101]⟩:ByteArray)]:List ByteArray)) (inner:=[.string (⟨#[97]⟩:ByteArray), .string (⟨#[98]⟩:ByteArray), .string (⟨#[99]⟩:ByteArray), .string (⟨#[110,111,116,105,99,101]⟩:ByteArray)]) (ok:=fun _=>True) (okp:=fun _=>True) ?hr ?hp (fun _ hk=>hk) trivial (Below.refl _ _) (Nat.le_refl _) (by simp) ?_;(case hd=>rfl);(case hg=>rfl);(case hr=>(go_simp <;> rfl));(case hp=>exact (Reps.one (show Kd.M Kd.string _ _ _ (⟨#[97]⟩:ByteArray) [.string (⟨#[97]⟩:ByteArray)] from rfl) (Reps.one (show Kd.M Kd.string _ _ _ (⟨#[98]⟩:ByteArray) [.string (⟨#[98]⟩:ByteArray)] from rfl) (Reps.one (show Kd.M Kd.string _ _ _ (⟨#[99]⟩:ByteArray) [.string (⟨#[99]⟩:ByteArray)] from rfl) (Reps.one (show Kd.M Kd.string _ _ _ (⟨#[110,111,116,105,99,101]⟩:ByteArray) [.string (⟨#[110,111,116,105,99,101]⟩:ByteArray)] from rfl) (Reps.none _ _))))))
       intro v237 w18 ho19 hb hg_ hnew_
       clear hg_ hnew_
       (first|rw [← Ny236.out] at ho19|(simp only [Int.reduceToNat] at ho19;rw [← Ny236.out] at ho19))
       have n0_:=Am (Kd.R_elder' (bR HO_234001.out) (Kd.R_base ho19) hb)
       have n1_:=Am (Kd.R_lower (Kd.R_new' ho19 (Kd.R_lt (bR HO_234001.out))) (keep_size (w:=w) (g:=g) (row:=none) (by repeat (first|(with_reducible first|exact HK.out|apply KeepBut.set_|apply kN|apply kD|apply kA|refine keep_far ?_ GW233.out _)|exact HK.out))))
       have n2_:=Am (blk_below (bB BK233.out) hb)
       have n3_:=Am (IsS60.below (by repeat (first|(with_reducible first|exact HI0.out|apply IsS60.alloc|apply IsS60.drewN|apply IsS60.drew|apply IsS60.set_1|refine IsS60.far ?_ NB0_233.out _)|exact HI0.out)) hb)
       have n4_:=Am (KeepBut.trans (by repeat (first|(with_reducible first|exact HK.out|apply KeepBut.set_|apply kN|apply kD|apply kA|refine keep_far ?_ GW233.out _)|exact HK.out)) (KeepBut.of_below hb g none) (.inl rfl))
       have n5_:=Am (bT (by repeat (first|(with_reducible first|exact HB.out|apply bA|apply bN|apply bD|refine bS ?_ (IsS60.ge HI0.out)|refine bS ?_ GE233.out)|exact HB.out)) hb)
       clear HO_234001
       clear BK233
       clear HI0
       clear HK
       clear HB
       have HO_234001:=n0_
       have HO238:=n1_
       have BK233:=n2_
       have HI0:=n3_
       have HK:=n4_
       have HB:=n5_
       clear n0_ n1_ n2_ n3_ n4_ n5_
       clear hb ho19
       obtain ⟨Ao20,co20,eo20⟩:=Kd.R_slice HO238.out
       (first|subst eo20|(injection eo20 with f1_ f2_ f3_;have f4_:=f1_.symm;have f5_:=f3_.symm;clear f1_ f2_ f3_;subst f4_;subst f5_))
       refine hK.out _ _ ⟨bM BK233.out 0 rfl,bM BK233.out 1 rfl,bM BK233.out 2 rfl,bM BK233.out 3 rfl⟩ (fun hHeld=>?_)
       clear hK K
       refine norm_ (a':=?_) ?_ ?_
       rotate_left
       ·show Act.put _ (some 20) _ = _
        simp only [Act.put,lT,lZ,lS,i64_w,i32_w]
        rfl
       refine one_ (i:=4) (N:=some 21) #[true,true,true,true,true,false,false,false,false] rfl rfl (one_of HT_.out (by kernel_rfl)) (by decide) (fun K hK=>?_)
       refine goes_ Tryd.func53 (by kernel_rfl) rfl #[.pointer (some ⟨g,0,none⟩), .slice Ao20 y236.length co20] (by rfl) rfl rfl (by (try simp only [List.map_toArray,List.map_cons,List.map_nil]);first|done|rfl|(simp only [List.length_drop,List.length_take];rfl)) ?_
       with_reducible refine (spec_l6Rd_of.calls k1 g s0_0 x1001_1 _ _ y236 t239 t240 w0 _ ?side1 ?side2 ?side3 ?side4 ?side5 A15.out).mono ?_
       (case side1=>repeat (first|(with_reducible first|exact HI0.out|apply IsS60.alloc|apply IsS60.drewN|apply IsS60.drew|apply IsS60.set_1|refine IsS60.far ?_ NB0_233.out _)|exact HI0.out))
       (case side2=>repeat (first|(with_reducible first|exact HB.out|apply bA|apply bN|apply bD|refine bS ?_ (IsS60.ge HI0.out)|refine bS ?_ GE233.out)|exact HB.out))
       (case side3=>repeat (first|exact (Kd.R_reads' HO238.out).2.2|(with_reducible refine bC ?_)))
       (case side4=>exact (Kd.R_reads' HO238.out).2.1)
       (case side5=>exact far_slice (IsS60.own_ne HI0.out HO238.out (by decide)))
       rintro e w21 ⟨rfl,hi,hb,hk⟩
       refine ⟨_,rfl,?_⟩
       have n0_:=Am (Kd.R_mono (Kd.R_keep (IsS60.apart (show IsS60 w0 _ g s0_0 x1001_1 from by repeat (first|(with_reducible first|exact HI0.out|apply IsS60.alloc|apply IsS60.drewN|apply IsS60.drew|apply IsS60.set_1|refine IsS60.far ?_ NB0_233.out _)|exact HI0.out)) (bR HO_234001.out) (by decide)) hk (fun _ h=>h.2)) (fun _ h=>h.1))
       have n1_:=Am (KeepBut.blk hk (bB BK233.out) NB233_0.out (by simp))
       have n2_:=Am (Kd.R_mono (Kd.R_keep (IsS60.apart (show IsS60 w0 _ g s0_0 x1001_1 from by repeat (first|(with_reducible first|exact HI0.out|apply IsS60.alloc|apply IsS60.drewN|apply IsS60.drew|apply IsS60.set_1|refine IsS60.far ?_ NB0_233.out _)|exact HI0.out)) (bR HO238.out) (by decide)) hk (fun _ h=>h.2)) (fun _ h=>h.1))
       have n3_:=Am (KeepBut.trans (by repeat (first|(with_reducible first|exact HK.out|apply KeepBut.set_|apply kN|apply kD|apply kA|refine keep_far ?_ GW233.out _)|exact HK.out)) hk (.inl rfl))
       have n4_:=Am (hb)
       have n5_:=Am (hi)
       clear HO_234001
       clear BK233
       clear HO238
       clear HK
       clear HB
       clear HI0
       have HO_234001:=n0_
       have BK233:=n1_
       have HO238:=n2_
       have HK:=n3_
       have HB:=n4_
       have HI0:=n5_
       clear n0_ n1_ n2_ n3_ n4_ n5_
       (try clear hb)
       (try clear hb2)
       (try clear hk)
       (try clear hi)
       refine hK.out _ _ ⟨bM BK233.out 0 rfl,bM BK233.out 1 rfl,bM BK233.out 2 rfl,bM BK233.out 3 rfl⟩ (fun hHeld=>?_)
       clear hK K
       refine norm_ (a':=?_) ?_ ?_
       rotate_left
       ·show Act.put _ (some 21) _ = _
        simp only [Act.put,lT,lZ,lS,i64_w,i32_w]
        rfl
       refine one_ (i:=5) (N:=some 22) #[true,true,true,true,true,true,false,false,false] rfl rfl (one_of HT_.out (by kernel_rfl)) (by decide) (fun K hK=>?_)
       refine value_ (w1:=?_) (v:=?_) (by rfl) rfl ?_ ?_
       rotate_left 2
       ·go_simp
        constructor
        ·rfl
        ·rfl
       refine hK.out _ _ ⟨(blk_cell (blk_alloc BK233.out _) 0).trans rfl,(blk_cell (blk_alloc BK233.out _) 1).trans rfl,(blk_cell (blk_alloc BK233.out _) 2).trans rfl,(blk_cell (blk_alloc BK233.out _) 3).trans rfl⟩ (fun hHeld=>?_)
       clear hK K
       refine norm_ (a':=?_) ?_ ?_
       rotate_left
       ·show Act.put _ (some 22) _ = _
        simp only [Act.put,lT,lZ,lS,i64_w,i32_w]
        rfl
       refine one_ (i:=6) (N:=some 23) #[true,true,true,true,true,true,true,false,false] rfl rfl (one_of HT_.out (by kernel_rfl)) (by decide) (fun K hK=>?_)
       refine Kd.R_append_step Kd.string w.heap.size (by rfl) (.tmp 18) (.tmp 22) 23 9 (.string ⟨#[]⟩) 16 rfl Tryd.underlying23 info9 rfl (by decide) (by omega) u234001 x234001_1 t239 [.string t239] (fun k_=>some k_ ≠ (.slice Ao20 y236.length co20:Value).ownBlock) (fun _=>False) rfl rfl ?aP (fun _ hk=>hk.elim) ?aF ?aO (Below.refl _ _) ?aS ?aL ?_
       (case aP=>exact rfl)
       (case aF=>exact (fun k_ hk=>Kd.fresh' (Kd.R_lt (bR HO238.out)) k_ hk))
       (case aO=>exact (by (with_reducible repeat (first|apply rA|apply rN|apply rD));exact Kd.R_mono HO_234001.out (fun _ hk=>hk.2)))
       (case aS=>exact (keep_size (w:=w) (g:=g) (row:=none) (by repeat (first|(with_reducible first|exact HK.out|apply KeepBut.set_|apply kN|apply kD|apply kA|refine keep_far ?_ GW233.out _)|exact HK.out))))
       (case aL=>have:=LMc16.out;omega)
       intro v242 w22 ho hb hg hat
       rw [← Ny241.out] at ho
       have n0_:=Am (blk_grown (bB BK233.out) hg (Kd.R_ne HO_234001.out BK233.out (by decide)))
       have n1_:=Am (IsS60.grown (by repeat (first|(with_reducible first|exact HI0.out|apply IsS60.alloc|apply IsS60.drewN|apply IsS60.drew|apply IsS60.set_1|refine IsS60.far ?_ NB0_233.out _)|exact HI0.out)) hg (IsS60.own_ne HI0.out HO_234001.out (by decide)))
       have n2_:=Am (Kd.R_after (ok:=(fun _=>True)) (bR HO238.out) hg hat)
       have n3_:=Am (below_weaken (by repeat (first|(with_reducible first|exact HB.out|apply bA|apply bN|apply bD|refine bS ?_ (IsS60.ge HI0.out)|refine bS ?_ GE233.out)|exact HB.out)) HL.out hb)
       have n4_:=Am (KeepBut.trans (by repeat (first|(with_reducible first|exact HK.out|apply KeepBut.set_|apply kN|apply kD|apply kA|refine keep_far ?_ GW233.out _)|exact HK.out)) (KeepBut.of_grown hg g) (Kd.R_base2 HO_234001.out))
       have n5_:=Am (ho)
       clear BK233
       clear HI0
       clear HO238
       clear HB
       clear HK
       clear HO_234001
       have BK233:=n0_
       have HI0:=n1_
       have HO238:=n2_
       have HB:=n3_
       have HK:=n4_
       have HO243:=n5_
       clear n0_ n1_ n2_ n3_ n4_ n5_
       clear ho hb hg hat
       obtain ⟨Ao23,co23,eo23⟩:=Kd.R_slice HO243.out
       (first|subst eo23|(injection eo23 with f1_ f2_ f3_;have f4_:=f1_.symm;have f5_:=f3_.symm;clear f1_ f2_ f3_;subst f4_;subst f5_))
       refine hK.out _ _ ⟨bM BK233.out 0 rfl,bM BK233.out 1 rfl,bM BK233.out 2 rfl,bM BK233.out 3 rfl⟩ (fun hHeld=>?_)
       clear hK K
       refine norm_ (a':=?_) ?_ ?_
       rotate_left
       ·show Act.put _ (some 23) _ = _
        simp only [Act.put,lT,lZ,lS,i64_w,i32_w]
        rfl
       refine pure_ (i:=7) (N:=some 24) (v:=?_) (a':=?_) #[true,true,true,true,true,true,true,true,false] rfl rfl (any_of HT_.out (by kernel_rfl)) (fun _ _ _ h=>h) (Or.inl ⟨by rfl,?_⟩) ?_ ?_
       rotate_left
       ·intro w'
        go_simp
        with_reducible rfl
       rotate_left
       ·simp only [Act.put,lT,lZ,lS,i64_w,i32_w]
        rfl
       refine last_ (i:=8) (N:=none) #[true,true,true,true,true,true,true,true,true] rfl rfl (one_of HT_.out (by kernel_rfl)) (by decide) (fun K hK=>?_)
       have hs24:w22.cell? ⟨gb233,1,none⟩ = some (u234001):=bM BK233.out 1 rfl
       have hfs24:=bZ BK233.out 1
       refine skip_ (w1:=?_) (by rfl) rfl ?_ ?_
       rotate_left
       ·go_simp
        rfl
       refine hK.out _ _ ?_
       clear hK K
       refine done_ (done_of HT_.out (by kernel_rfl)) ?_
       try go_wp2
       go_roundg k1
       case measure=>have:=HK1.out;omega
       case rel=>exact ⟨(wrap64 (x4_1 - 1)),(t240),(y241),(.slice Ao23 y241.length co23),(by first|rfl|(simp;done)|(simp only [i64_w,i32_w] <;> rfl)|(simp [*];done)|(simp [emp_bne,emp_beq];done)),H',⟨by have:=HK1.out;omega⟩,⟨by (with_reducible repeat (first|apply rA|apply rN|apply rD));exact Kd.R_mono (Kd.R_far (p:=⟨gb233,1,none⟩) (Kd.R_types HO243.out BK233.out (by decide)) (fun _ hk=>hk.2) (.slice Ao23 y241.length co23)) (fun _ hk=>trivial)⟩,⟨by refine bB ?_;refine blk_put (cs:=#[.string (rdOf ByteArray.empty t227 t230),u234001, .bool false, .string (⟨#[]⟩:ByteArray)]) ?_ 1 _ rfl;refine bB ?_;exact BK233.out⟩,⟨by repeat (first|(with_reducible first|exact HI0.out|apply IsS60.alloc|apply IsS60.drewN|apply IsS60.drew|apply IsS60.set_1|refine IsS60.far ?_ NB0_233.out _)|exact HI0.out)⟩,⟨by repeat (first|(with_reducible first|exact HK.out|apply KeepBut.set_|apply kN|apply kD|apply kA|refine keep_far ?_ GW233.out _)|exact HK.out)⟩,⟨by repeat (first|(with_reducible first|exact HB.out|apply bA|apply bN|apply bD|refine bS ?_ (IsS60.ge HI0.out)|refine bS ?_ GE233.out)|exact HB.out)⟩⟩
      ·rw [if_neg c16] at H
       exact absurd H (by simp)
     ·rw [if_neg c14] at H
      have c14b0:decide (0 < x4_1) = false:=decide_eq_false c14
      clear c14
      replace H:=bI H
      obtain ⟨⟨t244,t245⟩,A250,H⟩:=H
      replace H:(if t244 = 0 then ((spec_l6Rd_of.f k1 s0_0 t245 (([(⟨#[]⟩:ByteArray),(⟨#[97]⟩:ByteArray),(⟨#[98,37,51,68]⟩:ByteArray)]:List ByteArray))).bind fun bt249=>((spec_AddrText.f k1 (rdOf ByteArray.empty t227 t230) x234001_1 true bt249.1).bind fun t251=>(some (t251,bt249.2)))) else ((spec_AddrText.f k1 (rdOf ByteArray.empty t227 t230) x234001_1 false (⟨#[]⟩:ByteArray)).bind fun t252=>(some (t252,t245)))) = some (r1,r2):=H
      have A25:=Am A250
      clear A250
      by_cases c26:t244 = 0
      ·rw [if_pos c26] at H
       have c26b0:(t244 == 0) = true:=beq_iff_eq.mpr c26
       have c26b1:(t244 != 0) = false:=bne_eq_false_iff_eq.mpr c26
       clear c26
       obtain ⟨y246,hy246⟩:∃ y_:List ByteArray,y_ = (([(⟨#[]⟩:ByteArray),(⟨#[97]⟩:ByteArray),(⟨#[98,37,51,68]⟩:ByteArray)]:List ByteArray)):=⟨_,rfl⟩
       replace H:((spec_l6Rd_of.f k1 s0_0 t245 y246).bind fun bt249=>((spec_AddrText.f k1 (rdOf ByteArray.empty t227 t230) x234001_1 true bt249.1).bind fun t251=>(some (t251,bt249.2)))) = some (r1,r2):=by first|(rw [hy246];with_reducible exact H)|(have H2_:=(Option.bind_some _ _).symm.trans H;rw [hy246];with_reducible exact H2_)|(have H2_:=(Option.bind_some _ _).symm.trans H;with_reducible exact H2_)|with_reducible exact H|(rw [hy246];exact H)|exact H
       have Ny246:=Am hy246
       clear hy246
       replace H:=bI H
       obtain ⟨⟨t249,t250⟩,A270,H⟩:=H
       replace H:((spec_AddrText.f k1 (rdOf ByteArray.empty t227 t230) x234001_1 true t249).bind fun t251=>(some (t251,t250))) = some (r1,r2):=H
       have A27:=Am A270
       clear A270
       replace H:=bI H
       obtain ⟨t251,A280,H⟩:=H
       replace H:(some (t251,t250)) = some (r1,r2):=H
       have A28:=Am A280
       clear A280
       simp only [Option.some.injEq,Prod.mk.injEq] at H
       obtain ⟨rfl,rfl⟩:=H
       go_wp2_with (first|((with_reducible refine gate_callee (f:=52) rfl ?_);refine goesL_ (some 26) rfl rfl Tryd.func52 (by kernel_rfl) rfl #[.pointer (some ⟨g,0,none⟩), .int .i64 8] rfl (aE2 rfl rfl) ?_;(with_reducible refine (spec_l6Rd_pick.calls k1 g s0_0 x1001_1 8 t244 t245 w0 _ ?side1 ?side2 A25.out).mono ?_);(case side1=>repeat (first|(with_reducible first|exact HI0.out|apply IsS60.alloc|apply IsS60.drewN|apply IsS60.drew|apply IsS60.set_1|refine IsS60.far ?_ NB0_233.out _)|exact HI0.out));(case side2=>repeat (first|(with_reducible first|exact HB.out|apply bA|apply bN|apply bD|refine bS ?_ (IsS60.ge HI0.out)|refine bS ?_ GE233.out)|exact HB.out));rintro e w29 ⟨rfl,hi,hb,hk⟩;refine ⟨_,rfl,?_⟩;have n0_:=Am (Kd.R_mono (Kd.R_keep (IsS60.apart (show IsS60 w0 _ g s0_0 x1001_1 from by repeat (first|(with_reducible first|exact HI0.out|apply IsS60.alloc|apply IsS60.drewN|apply IsS60.drew|apply IsS60.set_1|refine IsS60.far ?_ NB0_233.out _)|exact HI0.out)) (bR HO_234001.out) (by decide)) hk (fun _ h=>h.2)) (fun _ h=>h.1));have n1_:=Am (KeepBut.blk hk (bB BK233.out) NB233_0.out (by simp));have n2_:=Am (KeepBut.trans (by repeat (first|(with_reducible first|exact HK.out|apply KeepBut.set_|apply kN|apply kD|apply kA|refine keep_far ?_ GW233.out _)|exact HK.out)) hk (.inl rfl));have n3_:=Am (hb);have n4_:=Am (hi);clear HO_234001 BK233 HK HB HI0;have HO_234001:=n0_;have BK233:=n1_;have HK:=n2_;have HB:=n3_;have HI0:=n4_;clear n0_ n1_ n2_ n3_ n4_;(try clear hb hk hi);have hnb30:=NB233_0.out;have hnc30:=NB0_233.out;obtain ⟨hcz31_0,hcz31_1,hcz31_2,hcz31_3,hfz31_0,hfz31_1,hfz31_2,hfz31_3⟩:=bX BK233.out)|((with_reducible refine gate_dst (N:=30) rfl ?_);refine Kd.R_lit Kd.string _ 9 ?hg (N:=30) ?hd (xs:=([(⟨#[]⟩:ByteArray),(⟨#[97]⟩:ByteArray),(⟨#[98,37,51,68]⟩:ByteArray)]:List ByteArray)) (inner:=[.string (⟨#[]⟩:ByteArray), .string (⟨#[97]⟩:ByteArray), .string (⟨#[98,37,51,68]⟩:ByteArray)]) (ok:=fun _=>True) (okp:=fun _=>True) ?hr ?hp (fun _ hk=>hk) trivial (Below.refl _ _) (Nat.le_refl _) (by simp) ?_;(case hd=>rfl);(case hg=>rfl);(case hr=>(go_simp <;> rfl));(case hp=>exact (Reps.one (show Kd.M Kd.string _ _ _ (⟨#[]⟩:ByteArray) [.string (⟨#[]⟩:ByteArray)] from rfl) (Reps.one (show Kd.M Kd.string _ _ _ (⟨#[97]⟩:ByteArray) [.string (⟨#[97]⟩:ByteArray)] from rfl) (Reps.one (show Kd.M Kd.string _ _ _ (⟨#[98,37,51,68]⟩:ByteArray) [.string (⟨#[98,37,51,68]⟩:ByteArray)] from rfl) (Reps.none _ _)))));intro v247 w32 ho33 hb hg_ hnew_;clear hg_ hnew_;(first|rw [← Ny246.out] at ho33|(simp only [Int.reduceToNat] at ho33;rw [← Ny246.out] at ho33));have n0_:=Am (Kd.R_elder' (by (with_reducible repeat (first|apply rA|apply rN|apply rD));exact (Kd.R_mono (Kd.R_far (p:=⟨gb233,2,none⟩) (Kd.R_types HO_234001.out BK233.out (by decide)) (fun _ hk=>hk.2) (.bool true)) (fun _ h_=>h_.1))) (Kd.R_base ho33) hb);have n1_:=Am (Kd.R_lower (Kd.R_new' ho33 (Kd.R_lt (by (with_reducible repeat (first|apply rA|apply rN|apply rD));exact (Kd.R_mono (Kd.R_far (p:=⟨gb233,2,none⟩) (Kd.R_types HO_234001.out BK233.out (by decide)) (fun _ hk=>hk.2) (.bool true)) (fun _ h_=>h_.1))))) (keep_size (w:=w) (g:=g) (row:=none) (by repeat (first|(with_reducible first|exact HK.out|apply KeepBut.set_|apply kN|apply kD|apply kA|refine keep_far ?_ GW233.out _)|exact HK.out))));have n2_:=Am (blk_below (g:=gb233) (o:=.cells #[.string (rdOf ByteArray.empty t227 t230),u234001, .bool true, .string (⟨#[]⟩:ByteArray)] 25 (0,0)) (by refine bB ?_;refine blk_put (cs:=#[.string (rdOf ByteArray.empty t227 t230),u234001, .bool false, .string (⟨#[]⟩:ByteArray)]) ?_ 2 _ rfl;refine bB ?_;exact BK233.out) hb);have n3_:=Am (IsS60.below (show IsS60 w0 (w29.setCell ⟨gb233,2,none⟩ (.bool true)) g s0_0 t245 from by repeat (first|(with_reducible first|exact HI0.out|apply IsS60.alloc|apply IsS60.drewN|apply IsS60.drew|apply IsS60.set_1|refine IsS60.far ?_ NB0_233.out _)|exact HI0.out)) hb);have n4_:=Am (KeepBut.trans (by repeat (first|(with_reducible first|exact HK.out|apply KeepBut.set_|apply kN|apply kD|apply kA|refine keep_far ?_ GW233.out _)|exact HK.out)) (KeepBut.of_below hb g none) (.inl rfl));have n5_:=Am (bT (by repeat (first|(with_reducible first|exact HB.out|apply bA|apply bN|apply bD|refine bS ?_ (IsS60.ge HI0.out)|refine bS ?_ GE233.out)|exact HB.out)) hb);clear HO_234001 BK233 HI0 HK HB;have HO_234001:=n0_;have HO248:=n1_;have BK233:=n2_;have HI0:=n3_;have HK:=n4_;have HB:=n5_;clear n0_ n1_ n2_ n3_ n4_ n5_ hb ho33;obtain ⟨Ao34,co34,eo34⟩:=Kd.R_slice HO248.out;subst eo34)|((with_reducible refine gate_callee (f:=53) rfl ?_);refine goesL_ (some 31) rfl rfl Tryd.func53 (by kernel_rfl) rfl #[.pointer (some ⟨g,0,none⟩), .slice Ao34 y246.length co34] rfl (aE2 rfl rfl) ?_;(with_reducible refine (spec_l6Rd_of.calls k1 g s0_0 t245 _ _ y246 t249 t250 w0 _ ?side1 ?side2 ?side3 ?side4 ?side5 A27.out).mono ?_);(case side1=>repeat (first|(with_reducible first|exact HI0.out|apply IsS60.alloc|apply IsS60.drewN|apply IsS60.drew|apply IsS60.set_1|refine IsS60.far ?_ NB0_233.out _)|exact HI0.out));(case side2=>repeat (first|(with_reducible first|exact HB.out|apply bA|apply bN|apply bD|refine bS ?_ (IsS60.ge HI0.out)|refine bS ?_ GE233.out)|exact HB.out));(case side3=>repeat (first|exact (Kd.R_reads' HO248.out).2.2|(with_reducible refine bC ?_)));(case side4=>exact (Kd.R_reads' HO248.out).2.1);(case side5=>exact far_slice (IsS60.own_ne HI0.out HO248.out (by decide)));rintro e w35 ⟨rfl,hi,hb,hk⟩;refine ⟨_,rfl,?_⟩;have n0_:=Am (Kd.R_mono (Kd.R_keep (IsS60.apart (show IsS60 w0 _ g s0_0 t245 from by repeat (first|(with_reducible first|exact HI0.out|apply IsS60.alloc|apply IsS60.drewN|apply IsS60.drew|apply IsS60.set_1|refine IsS60.far ?_ NB0_233.out _)|exact HI0.out)) (bR HO_234001.out) (by decide)) hk (fun _ h=>h.2)) (fun _ h=>h.1));have n1_:=Am (KeepBut.blk hk (bB BK233.out) NB233_0.out (by simp));have n2_:=Am (Kd.R_mono (Kd.R_keep (IsS60.apart (show IsS60 w0 _ g s0_0 t245 from by repeat (first|(with_reducible first|exact HI0.out|apply IsS60.alloc|apply IsS60.drewN|apply IsS60.drew|apply IsS60.set_1|refine IsS60.far ?_ NB0_233.out _)|exact HI0.out)) (bR HO248.out) (by decide)) hk (fun _ h=>h.2)) (fun _ h=>h.1));have n3_:=Am (KeepBut.trans (by repeat (first|(with_reducible first|exact HK.out|apply KeepBut.set_|apply kN|apply kD|apply kA|refine keep_far ?_ GW233.out _)|exact HK.out)) hk (.inl rfl));have n4_:=Am (hb);have n5_:=Am (hi);clear HO_234001 BK233 HO248 HK HB HI0;have HO_234001:=n0_;have BK233:=n1_;have HO248:=n2_;have HK:=n3_;have HB:=n4_;have HI0:=n5_;clear n0_ n1_ n2_ n3_ n4_ n5_;(try clear hb hk hi);obtain ⟨hcz36_0,hcz36_1,hcz36_2,hcz36_3,hfz36_0,hfz36_1,hfz36_2,hfz36_3⟩:=bX BK233.out;obtain ⟨Ao37,co37,eo37⟩:=Kd.R_slice HO_234001.out;subst eo37)|((with_reducible refine gate_callee (f:=76) rfl ?_);refine goesL_ (some 34) rfl rfl Tryd.func76 (by kernel_rfl) rfl #[.agg #[.string (rdOf ByteArray.empty t227 t230), .slice Ao37 x234001_1.length co37, .bool true, .string t249]] rfl (aE1 rfl) ?_;(with_reducible refine (spec_AddrText.calls k1 (rdOf ByteArray.empty t227 t230) _ _ x234001_1 true t249 t251 _ ?side1 ?side2 A28.out).mono ?_);(case side1=>refine (Kd.R_reads' (e:=9) (base:=w.heap.size) (ok:=fun k_=>(True ∧ some k_ ≠ (.slice Ao34 y246.length co34:Value).ownBlock)) (n:=x234001_1.length) (c:=co37) ?_).2.2;exact (by (with_reducible repeat (first|apply rA|apply rN|apply rD));exact (Kd.R_mono (Kd.R_far (p:=⟨gb233,3,none⟩) (Kd.R_types HO_234001.out BK233.out (by decide)) (fun _ hk=>hk.2) (.string t249)) (fun _ h_=>h_.1))));(case side2=>exact (Kd.R_reads' HO_234001.out).2.1);rintro e w38 ⟨rfl,hb⟩;refine ⟨_,rfl,?_⟩;have n0_:=Am (Kd.R_below (by (with_reducible repeat (first|apply rA|apply rN|apply rD));exact (Kd.R_mono (Kd.R_far (p:=⟨gb233,3,none⟩) (Kd.R_types HO_234001.out BK233.out (by decide)) (fun _ hk=>hk.2) (.string t249)) (fun _ h_=>h_.1))) hb);have n1_:=Am (Kd.R_below (by (with_reducible repeat (first|apply rA|apply rN|apply rD));exact (Kd.R_mono (Kd.R_far (p:=⟨gb233,3,none⟩) (Kd.R_types HO248.out BK233.out (by decide)) (fun _ hk=>hk.2) (.string t249)) (fun _ h_=>h_.1))) hb);have n2_:=Am (blk_below (g:=gb233) (o:=.cells #[.string (rdOf ByteArray.empty t227 t230), .slice Ao37 x234001_1.length co37, .bool true, .string t249] 25 (0,0)) (by refine bB ?_;refine blk_put (cs:=#[.string (rdOf ByteArray.empty t227 t230), .slice Ao37 x234001_1.length co37, .bool true, .string (⟨#[]⟩:ByteArray)]) ?_ 3 _ rfl;refine bB ?_;exact BK233.out) hb);have n3_:=Am (IsS60.below (show IsS60 w0 (w35.setCell ⟨gb233,3,none⟩ (.string t249)) g s0_0 t250 from by repeat (first|(with_reducible first|exact HI0.out|apply IsS60.alloc|apply IsS60.drewN|apply IsS60.drew|apply IsS60.set_1|refine IsS60.far ?_ NB0_233.out _)|exact HI0.out)) hb);have n4_:=Am (KeepBut.trans (by repeat (first|(with_reducible first|exact HK.out|apply KeepBut.set_|apply kN|apply kD|apply kA|refine keep_far ?_ GW233.out _)|exact HK.out)) (KeepBut.of_below hb g none) (.inl rfl));have n5_:=Am (bT (by repeat (first|(with_reducible first|exact HB.out|apply bA|apply bN|apply bD|refine bS ?_ (IsS60.ge HI0.out)|refine bS ?_ GE233.out)|exact HB.out)) hb);clear HO_234001 HO248 BK233 HI0 HK HB;have HO_234001:=n0_;have HO248:=n1_;have BK233:=n2_;have HI0:=n3_;have HK:=n4_;have HB:=n5_;clear n0_ n1_ n2_ n3_ n4_ n5_;(try clear hb)))
       go_ret
       exact ⟨by first|rfl|(simp <;> rfl)|(simp [*] <;> rfl),by repeat (first|(with_reducible first|exact HI0.out|apply IsS60.alloc|apply IsS60.drewN|apply IsS60.drew|apply IsS60.set_1|refine IsS60.far ?_ NB0_233.out _)|exact HI0.out),by repeat (first|(with_reducible first|exact HB.out|apply bA|apply bN|apply bD|refine bS ?_ (IsS60.ge HI0.out)|refine bS ?_ GE233.out)|exact HB.out),by repeat (first|(with_reducible first|exact HK.out|apply KeepBut.set_|apply kN|apply kD|apply kA|refine keep_far ?_ GW233.out _)|exact HK.out)⟩
      ·rw [if_neg c26] at H
       have c26b0:(t244 == 0) = false:=beq_eq_false_iff_ne.mpr c26
       have c26b1:(t244 != 0) = true:=bne_iff_ne.mpr c26
       replace H:=bI H
       obtain ⟨t252,A390,H⟩:=H
       replace H:(some (t252,t245)) = some (r1,r2):=H
       have A39:=Am A390
       clear A390
       simp only [Option.some.injEq,Prod.mk.injEq] at H
       obtain ⟨rfl,rfl⟩:=H
       go_wp2_with (first|((with_reducible refine gate_callee (f:=52) rfl ?_);refine goesL_ (some 26) rfl rfl Tryd.func52 (by kernel_rfl) rfl #[.pointer (some ⟨g,0,none⟩), .int .i64 8] rfl (aE2 rfl rfl) ?_;(with_reducible refine (spec_l6Rd_pick.calls k1 g s0_0 x1001_1 8 t244 t245 w0 _ ?side1 ?side2 A25.out).mono ?_);(case side1=>repeat (first|(with_reducible first|exact HI0.out|apply IsS60.alloc|apply IsS60.drewN|apply IsS60.drew|apply IsS60.set_1|refine IsS60.far ?_ NB0_233.out _)|exact HI0.out));(case side2=>repeat (first|(with_reducible first|exact HB.out|apply bA|apply bN|apply bD|refine bS ?_ (IsS60.ge HI0.out)|refine bS ?_ GE233.out)|exact HB.out));rintro e w40 ⟨rfl,hi,hb,hk⟩;refine ⟨_,rfl,?_⟩;have n0_:=Am (Kd.R_mono (Kd.R_keep (IsS60.apart (show IsS60 w0 _ g s0_0 x1001_1 from by repeat (first|(with_reducible first|exact HI0.out|apply IsS60.alloc|apply IsS60.drewN|apply IsS60.drew|apply IsS60.set_1|refine IsS60.far ?_ NB0_233.out _)|exact HI0.out)) (bR HO_234001.out) (by decide)) hk (fun _ h=>h.2)) (fun _ h=>h.1));have n1_:=Am (KeepBut.blk hk (bB BK233.out) NB233_0.out (by simp));have n2_:=Am (KeepBut.trans (by repeat (first|(with_reducible first|exact HK.out|apply KeepBut.set_|apply kN|apply kD|apply kA|refine keep_far ?_ GW233.out _)|exact HK.out)) hk (.inl rfl));have n3_:=Am (hb);have n4_:=Am (hi);clear HO_234001 BK233 HK HB HI0;have HO_234001:=n0_;have BK233:=n1_;have HK:=n2_;have HB:=n3_;have HI0:=n4_;clear n0_ n1_ n2_ n3_ n4_;(try clear hb hk hi);have hnb41:=NB233_0.out;have hnc41:=NB0_233.out;obtain ⟨hcz42_0,hcz42_1,hcz42_2,hcz42_3,hfz42_0,hfz42_1,hfz42_2,hfz42_3⟩:=bX BK233.out;obtain ⟨Ao43,co43,eo43⟩:=Kd.R_slice HO_234001.out;subst eo43)|((with_reducible refine gate_callee (f:=76) rfl ?_);refine goesL_ (some 34) rfl rfl Tryd.func76 (by kernel_rfl) rfl #[.agg #[.string (rdOf ByteArray.empty t227 t230), .slice Ao43 x234001_1.length co43, .bool false, .string (⟨#[]⟩:ByteArray)]] rfl (aE1 rfl) ?_;(with_reducible refine (spec_AddrText.calls k1 (rdOf ByteArray.empty t227 t230) _ _ x234001_1 false (⟨#[]⟩:ByteArray) t252 _ ?side1 ?side2 A39.out).mono ?_);(case side1=>repeat (first|exact (Kd.R_reads' HO_234001.out).2.2|(with_reducible refine bC ?_)));(case side2=>exact (Kd.R_reads' HO_234001.out).2.1);rintro e w44 ⟨rfl,hb⟩;refine ⟨_,rfl,?_⟩;have n0_:=bH HO_234001 hb;have n1_:=Am (blk_below (bB BK233.out) hb);have n2_:=Am (IsS60.below (by repeat (first|(with_reducible first|exact HI0.out|apply IsS60.alloc|apply IsS60.drewN|apply IsS60.drew|apply IsS60.set_1|refine IsS60.far ?_ NB0_233.out _)|exact HI0.out)) hb);have n3_:=Am (KeepBut.trans (by repeat (first|(with_reducible first|exact HK.out|apply KeepBut.set_|apply kN|apply kD|apply kA|refine keep_far ?_ GW233.out _)|exact HK.out)) (KeepBut.of_below hb g none) (.inl rfl));have n4_:=Am (bT (by repeat (first|(with_reducible first|exact HB.out|apply bA|apply bN|apply bD|refine bS ?_ (IsS60.ge HI0.out)|refine bS ?_ GE233.out)|exact HB.out)) hb);clear HO_234001 BK233 HI0 HK HB;have HO_234001:=n0_;have BK233:=n1_;have HI0:=n2_;have HK:=n3_;have HB:=n4_;clear n0_ n1_ n2_ n3_ n4_;(try clear hb)))
       go_ret
       exact ⟨by first|rfl|(simp <;> rfl)|(simp [*] <;> rfl),by repeat (first|(with_reducible first|exact HI0.out|apply IsS60.alloc|apply IsS60.drewN|apply IsS60.drew|apply IsS60.set_1|refine IsS60.far ?_ NB0_233.out _)|exact HI0.out),by repeat (first|(with_reducible first|exact HB.out|apply bA|apply bN|apply bD|refine bS ?_ (IsS60.ge HI0.out)|refine bS ?_ GE233.out)|exact HB.out),by repeat (first|(with_reducible first|exact HK.out|apply KeepBut.set_|apply kN|apply kD|apply kA|refine keep_far ?_ GW233.out _)|exact HK.out)⟩
  ·rw [if_neg c5] at H
   exact absurd H (by simp)
 ·rw [if_neg c4] at H
  exact absurd H (by simp)

/-! ### spec_l71Struct: function 30 -/
def spec_l71Struct.f (k:Nat) (s0_0:List Int) (s0_1:Int):Option (ByteArray × List ByteArray × Bool × ByteArray × Int):=(spec_l71Addr.f k s0_0 s0_1).bind fun bt254=>((spec_AddrRead.f k bt254.1).bind fun bt256=>((spec_l6Rd_pick.f k s0_0 bt254.2 12).bind fun bt264=>(if bt264.1 = 0 then ((spec_l6Rd_of.f k s0_0 bt264.2 (([(⟨#[46,46]⟩:ByteArray),(⟨#[]⟩:ByteArray),(⟨#[37,54,49]⟩:ByteArray),(⟨#[65]⟩:ByteArray),(⟨#[97,47,98]⟩:ByteArray),(⟨#[37,51,70]⟩:ByteArray)]:List ByteArray))).bind fun bt269=>(if bt256.2.1.length < 8796093022208 then (some (bt256.1,(bt256.2.1 ++ [bt269.1]),bt256.2.2.1,bt256.2.2.2.1,bt269.2)) else (none))) else (if bt264.1 = 1 then ((spec_l6Rd_of.f k s0_0 bt264.2 (([(⟨#[]⟩:ByteArray),(⟨#[65,98]⟩:ByteArray),(⟨#[116,111,111,108,111,110,103]⟩:ByteArray),(⟨#[97,49]⟩:ByteArray)]:List ByteArray))).bind fun bt277=>(some (bt277.1,bt256.2.1,bt256.2.2.1,bt256.2.2.2.1,bt277.2))) else (if bt264.1 = 2 then (some (bt256.1,bt256.2.1,bt256.2.2.1,(⟨#[120]⟩:ByteArray),bt264.2)) else (if bt264.1 = 3 then ((some (([(⟨#[97]⟩:ByteArray),(⟨#[98]⟩:ByteArray),(⟨#[99]⟩:ByteArray),(⟨#[97]⟩:ByteArray),(⟨#[98]⟩:ByteArray)]:List ByteArray):List ByteArray)).bind fun y279=>(if bt256.2.1.length + y279.length < 8796093022208 then (some (bt256.1,(bt256.2.1 ++ y279),bt256.2.2.1,bt256.2.2.2.1,bt264.2)) else (none))) else (some (bt256.1,bt256.2.1,bt256.2.2.1,bt256.2.2.2.1,bt264.2))))))))
theorem spec_l71Struct.mono:∀ a0 a1 k,LeO (spec_l71Struct.f k a0 a1) (spec_l71Struct.f (k + 1) a0 a1):=by
 intro a0 a1 k
 unfold spec_l71Struct.f
 repeat' first
   | (with_reducible apply spec_AddrRead.mono)
   | (with_reducible apply spec_l6Rd_of.mono)
   | (with_reducible apply spec_l6Rd_pick.mono)
   | (with_reducible apply spec_l71Addr.mono)
   | (with_reducible exact LeO.refl _)
   | (with_reducible exact LeO.none _)
   | (with_reducible refine LeO.ite ?_ ?_)
   | (with_reducible refine LeO.bind ?_ (fun _=>?_))







def spec_l71Struct.T4:Bool × List (List Nat × List Nat):=(true,[([],[]),([0],[0]),([],[]),([],[]),([2,3],[2,3]),([4],[4]),([1,5,4],[1,5]),([0,1,2,3,4,5,6],[]),([7,6,6,0,1,2,3,4,5,6],[6,7])])
def spec_l71Struct.B4:List Nat:=[0,1,0,0,12,28,63,127,255]
theorem spec_l71Struct.tab4:rtab .any (opsOf Tryd.f30 4) = spec_l71Struct.T4:=by kernel_rfl
theorem spec_l71Struct.bits4:waitsOk spec_l71Struct.T4.2 spec_l71Struct.B4 = true:=by kernel_rfl
theorem spec_l71Struct.calls (k:Nat) (g:Nat) (s0_0:List Int) (s0_1:Int) (r1:ByteArray) (r2:List ByteArray) (r3:Bool) (r4:ByteArray) (r5:Int) (w0 w:World) (hI:IsS60 w0 w g s0_0 s0_1) (hB:Below w0.heap.size w0 w) (h:spec_l71Struct.f k s0_0 s0_1 = some (r1,r2,r3,r4,r5)) :
  Calls Tryd.prog 30 #[.pointer (some ⟨g,0,none⟩)] w fun e w'=>∃ v1_:Value,e = .returned (.agg #[.string r1,v1_, .bool r3, .string r4]) ∧ Kd.R Kd.string 9 w' w.heap.size (fun _=>True) v1_ r2 ∧ IsS60 w0 w' g s0_0 r5 ∧ Below w0.heap.size w0 w' ∧ KeepBut w w' g none:=by
 have hu25:=Tryd.underlying25
 have HI0:=Am hI
 have HK:=Am (KeepBut.refl w g none)
 have HL:=Am hB.size
 clear hI
 have HW0:=Am hB.size
 have HB:=Am hB
 clear hB
 have H:((spec_l71Addr.f k s0_0 s0_1).bind fun bt254=>((spec_AddrRead.f k bt254.1).bind fun bt256=>((spec_l6Rd_pick.f k s0_0 bt254.2 12).bind fun bt264=>(if bt264.1 = 0 then ((spec_l6Rd_of.f k s0_0 bt264.2 (([(⟨#[46,46]⟩:ByteArray),(⟨#[]⟩:ByteArray),(⟨#[37,54,49]⟩:ByteArray),(⟨#[65]⟩:ByteArray),(⟨#[97,47,98]⟩:ByteArray),(⟨#[37,51,70]⟩:ByteArray)]:List ByteArray))).bind fun bt269=>(if bt256.2.1.length < 8796093022208 then (some (bt256.1,(bt256.2.1 ++ [bt269.1]),bt256.2.2.1,bt256.2.2.2.1,bt269.2)) else (none))) else (if bt264.1 = 1 then ((spec_l6Rd_of.f k s0_0 bt264.2 (([(⟨#[]⟩:ByteArray),(⟨#[65,98]⟩:ByteArray),(⟨#[116,111,111,108,111,110,103]⟩:ByteArray),(⟨#[97,49]⟩:ByteArray)]:List ByteArray))).bind fun bt277=>(some (bt277.1,bt256.2.1,bt256.2.2.1,bt256.2.2.2.1,bt277.2))) else (if bt264.1 = 2 then (some (bt256.1,bt256.2.1,bt256.2.2.1,(⟨#[120]⟩:ByteArray),bt264.2)) else (if bt264.1 = 3 then ((some (([(⟨#[97]⟩:ByteArray),(⟨#[98]⟩:ByteArray),(⟨#[99]⟩:ByteArray),(⟨#[97]⟩:ByteArray),(⟨#[98]⟩:ByteArray)]:List ByteArray):List ByteArray)).bind fun y279=>(if bt256.2.1.length + y279.length < 8796093022208 then (some (bt256.1,(bt256.2.1 ++ y279),bt256.2.2.1,bt256.2.2.2.1,bt264.2)) else (none))) else (some (bt256.1,bt256.2.1,bt256.2.2.1,bt256.2.2.2.1,bt264.2))))))))) = some (r1,r2,r3,r4,r5):=h
 clear h
 replace H:=bI H
 obtain ⟨⟨t254,t255⟩,A20,H⟩:=H
 replace H:((spec_AddrRead.f k t254).bind fun bt256=>((spec_l6Rd_pick.f k s0_0 t255 12).bind fun bt264=>(if bt264.1 = 0 then ((spec_l6Rd_of.f k s0_0 bt264.2 (([(⟨#[46,46]⟩:ByteArray),(⟨#[]⟩:ByteArray),(⟨#[37,54,49]⟩:ByteArray),(⟨#[65]⟩:ByteArray),(⟨#[97,47,98]⟩:ByteArray),(⟨#[37,51,70]⟩:ByteArray)]:List ByteArray))).bind fun bt269=>(if bt256.2.1.length < 8796093022208 then (some (bt256.1,(bt256.2.1 ++ [bt269.1]),bt256.2.2.1,bt256.2.2.2.1,bt269.2)) else (none))) else (if bt264.1 = 1 then ((spec_l6Rd_of.f k s0_0 bt264.2 (([(⟨#[]⟩:ByteArray),(⟨#[65,98]⟩:ByteArray),(⟨#[116,111,111,108,111,110,103]⟩:ByteArray),(⟨#[97,49]⟩:ByteArray)]:List ByteArray))).bind fun bt277=>(some (bt277.1,bt256.2.1,bt256.2.2.1,bt256.2.2.2.1,bt277.2))) else (if bt264.1 = 2 then (some (bt256.1,bt256.2.1,bt256.2.2.1,(⟨#[120]⟩:ByteArray),bt264.2)) else (if bt264.1 = 3 then ((some (([(⟨#[97]⟩:ByteArray),(⟨#[98]⟩:ByteArray),(⟨#[99]⟩:ByteArray),(⟨#[97]⟩:ByteArray),(⟨#[98]⟩:ByteArray)]:List ByteArray):List ByteArray)).bind fun y279=>(if bt256.2.1.length + y279.length < 8796093022208 then (some (bt256.1,(bt256.2.1 ++ y279),bt256.2.2.1,bt256.2.2.2.1,bt264.2)) else (none))) else (some (bt256.1,bt256.2.1,bt256.2.2.1,bt256.2.2.2.1,bt264.2)))))))) = some (r1,r2,r3,r4,r5):=H
 have A2:=Am A20
 clear A20
 replace H:=bI H
 obtain ⟨⟨t256,t257,t260,t261,t262⟩,A30,H⟩:=H
 replace H:((spec_l6Rd_pick.f k s0_0 t255 12).bind fun bt264=>(if bt264.1 = 0 then ((spec_l6Rd_of.f k s0_0 bt264.2 (([(⟨#[46,46]⟩:ByteArray),(⟨#[]⟩:ByteArray),(⟨#[37,54,49]⟩:ByteArray),(⟨#[65]⟩:ByteArray),(⟨#[97,47,98]⟩:ByteArray),(⟨#[37,51,70]⟩:ByteArray)]:List ByteArray))).bind fun bt269=>(if t257.length < 8796093022208 then (some (t256,(t257 ++ [bt269.1]),t260,t261,bt269.2)) else (none))) else (if bt264.1 = 1 then ((spec_l6Rd_of.f k s0_0 bt264.2 (([(⟨#[]⟩:ByteArray),(⟨#[65,98]⟩:ByteArray),(⟨#[116,111,111,108,111,110,103]⟩:ByteArray),(⟨#[97,49]⟩:ByteArray)]:List ByteArray))).bind fun bt277=>(some (bt277.1,t257,t260,t261,bt277.2))) else (if bt264.1 = 2 then (some (t256,t257,t260,(⟨#[120]⟩:ByteArray),bt264.2)) else (if bt264.1 = 3 then ((some (([(⟨#[97]⟩:ByteArray),(⟨#[98]⟩:ByteArray),(⟨#[99]⟩:ByteArray),(⟨#[97]⟩:ByteArray),(⟨#[98]⟩:ByteArray)]:List ByteArray):List ByteArray)).bind fun y279=>(if t257.length + y279.length < 8796093022208 then (some (t256,(t257 ++ y279),t260,t261,bt264.2)) else (none))) else (some (t256,t257,t260,t261,bt264.2))))))) = some (r1,r2,r3,r4,r5):=H
 have A3:=Am A30
 clear A30
 replace H:=bI H
 obtain ⟨⟨t264,t265⟩,A40,H⟩:=H
 replace H:(if t264 = 0 then ((spec_l6Rd_of.f k s0_0 t265 (([(⟨#[46,46]⟩:ByteArray),(⟨#[]⟩:ByteArray),(⟨#[37,54,49]⟩:ByteArray),(⟨#[65]⟩:ByteArray),(⟨#[97,47,98]⟩:ByteArray),(⟨#[37,51,70]⟩:ByteArray)]:List ByteArray))).bind fun bt269=>(if t257.length < 8796093022208 then (some (t256,(t257 ++ [bt269.1]),t260,t261,bt269.2)) else (none))) else (if t264 = 1 then ((spec_l6Rd_of.f k s0_0 t265 (([(⟨#[]⟩:ByteArray),(⟨#[65,98]⟩:ByteArray),(⟨#[116,111,111,108,111,110,103]⟩:ByteArray),(⟨#[97,49]⟩:ByteArray)]:List ByteArray))).bind fun bt277=>(some (bt277.1,t257,t260,t261,bt277.2))) else (if t264 = 2 then (some (t256,t257,t260,(⟨#[120]⟩:ByteArray),t265)) else (if t264 = 3 then ((some (([(⟨#[97]⟩:ByteArray),(⟨#[98]⟩:ByteArray),(⟨#[99]⟩:ByteArray),(⟨#[97]⟩:ByteArray),(⟨#[98]⟩:ByteArray)]:List ByteArray):List ByteArray)).bind fun y279=>(if t257.length + y279.length < 8796093022208 then (some (t256,(t257 ++ y279),t260,t261,t265)) else (none))) else (some (t256,t257,t260,t261,t265)))))) = some (r1,r2,r3,r4,r5):=H
 have A4:=Am A40
 clear A40
 by_cases c5:t264 = 0
 ·rw [if_pos c5] at H
  have c5b0:(t264 == 0) = true:=beq_iff_eq.mpr c5
  have c5b1:(t264 != 0) = false:=bne_eq_false_iff_eq.mpr c5
  clear c5
  obtain ⟨y266,hy266⟩:∃ y_:List ByteArray,y_ = (([(⟨#[46,46]⟩:ByteArray),(⟨#[]⟩:ByteArray),(⟨#[37,54,49]⟩:ByteArray),(⟨#[65]⟩:ByteArray),(⟨#[97,47,98]⟩:ByteArray),(⟨#[37,51,70]⟩:ByteArray)]:List ByteArray)):=⟨_,rfl⟩
  replace H:((spec_l6Rd_of.f k s0_0 t265 y266).bind fun bt269=>(if t257.length < 8796093022208 then (some (t256,(t257 ++ [bt269.1]),t260,t261,bt269.2)) else (none))) = some (r1,r2,r3,r4,r5):=by first|(rw [hy266];with_reducible exact H)|(have H2_:=(Option.bind_some _ _).symm.trans H;rw [hy266];with_reducible exact H2_)|(have H2_:=(Option.bind_some _ _).symm.trans H;with_reducible exact H2_)|with_reducible exact H|(rw [hy266];exact H)|exact H
  have Ny266:=Am hy266
  clear hy266
  replace H:=bI H
  obtain ⟨⟨t269,t270⟩,A60,H⟩:=H
  replace H:(if t257.length < 8796093022208 then (some (t256,(t257 ++ [t269]),t260,t261,t270)) else (none)) = some (r1,r2,r3,r4,r5):=H
  have A6:=Am A60
  clear A60
  by_cases c7:t257.length < 8796093022208
  ·rw [if_pos c7] at H
   have LMc7:=Am c7
   clear c7
   obtain ⟨y271,hy271⟩:∃ y_:List ByteArray,y_ = (t257 ++ [t269]):=⟨_,rfl⟩
   replace H:(some (t256,y271,t260,t261,t270)) = some (r1,r2,r3,r4,r5):=by first|(rw [hy271];with_reducible exact H)|(have H2_:=(Option.bind_some _ _).symm.trans H;rw [hy271];with_reducible exact H2_)|(have H2_:=(Option.bind_some _ _).symm.trans H;with_reducible exact H2_)|with_reducible exact H|(rw [hy271];exact H)|exact H
   have Ny271:=Am hy271
   clear hy271
   simp only [Option.some.injEq,Prod.mk.injEq] at H
   obtain ⟨rfl,rfl,rfl,rfl,rfl⟩:=H
   go_enter Tryd.func30,Tryd.ntmps30
   try go_wp2_with (first|((with_reducible refine gate_dst (N:=2) rfl ?_);refine box_event ?hg (N:=2) ?hd (cs:=#[.string (⟨#[]⟩:ByteArray), .slice none 0 0, .bool false, .string (⟨#[]⟩:ByteArray)]) (t:=25) ?hr ?_;(case hd=>rfl);(case hg=>rfl);(case hr=>(go_simp <;> rfl));intro gb253 hg w8 hbox hb;have n0_:=Am (IsS60.below (by repeat (first|(with_reducible first|exact HI0.out|apply IsS60.alloc|apply IsS60.drewN|apply IsS60.drew|apply IsS60.set_1)|exact HI0.out)) hb);have n1_:=Am (KeepBut.trans (by repeat (first|(with_reducible first|exact HK.out|apply KeepBut.set_|apply kN|apply kD|apply kA)|exact HK.out)) (KeepBut.of_below hb g none) (.inl rfl));have n2_:=Am (bT (by repeat (first|(with_reducible first|exact HB.out|apply bA|apply bN|apply bD|refine bS ?_ (IsS60.ge HI0.out))|exact HB.out)) hb);have n3_:=Am (hbox);have n4_:=Am ((by rw [hg];exact (keep_size (w:=w) (g:=g) (row:=none) (by repeat (first|(with_reducible first|exact HK.out|apply KeepBut.set_|apply kN|apply kD|apply kA)|exact HK.out))):w.heap.size ≤ gb253));have n5_:=Am ((Nat.le_trans HW0.out (by rw [hg];exact (keep_size (w:=w) (g:=g) (row:=none) (by repeat (first|(with_reducible first|exact HK.out|apply KeepBut.set_|apply kN|apply kD|apply kA)|exact HK.out))):w.heap.size ≤ gb253):w0.heap.size ≤ gb253));have n6_:=Am ((by rw [hg];exact Nat.ne_of_lt (IsS60.lt (show IsS60 w0 _ g s0_0 s0_1 from by repeat (first|(with_reducible first|exact HI0.out|apply IsS60.alloc|apply IsS60.drewN|apply IsS60.drew|apply IsS60.set_1)|exact HI0.out))):g ≠ gb253));have n7_:=Am ((by rw [hg];exact Nat.ne_of_gt (IsS60.lt (show IsS60 w0 _ g s0_0 s0_1 from by repeat (first|(with_reducible first|exact HI0.out|apply IsS60.alloc|apply IsS60.drewN|apply IsS60.drew|apply IsS60.set_1)|exact HI0.out))):gb253 ≠ g));clear HI0 HK HB;have HI0:=n0_;have HK:=n1_;have HB:=n2_;have BK253:=n3_;have GW253:=n4_;have GE253:=n5_;have NB0_253:=n6_;have NB253_0:=n7_;clear n0_ n1_ n2_ n3_ n4_ n5_ n6_ n7_ hb hbox hg)|((with_reducible refine gate_callee (f:=57) rfl ?_);refine goesL_ (some 7) rfl rfl Tryd.func57 (by kernel_rfl) rfl #[.pointer (some ⟨g,0,none⟩)] rfl (aE1 rfl) ?_;(with_reducible refine (spec_l71Addr.calls k g s0_0 s0_1 t254 t255 w0 _ ?side1 ?side2 A2.out).mono ?_);(case side1=>repeat (first|(with_reducible first|exact HI0.out|apply IsS60.alloc|apply IsS60.drewN|apply IsS60.drew|apply IsS60.set_1|refine IsS60.far ?_ NB0_253.out _)|exact HI0.out));(case side2=>repeat (first|(with_reducible first|exact HB.out|apply bA|apply bN|apply bD|refine bS ?_ (IsS60.ge HI0.out)|refine bS ?_ GE253.out)|exact HB.out));rintro e w9 ⟨rfl,hi,hb,hk⟩;refine ⟨_,rfl,?_⟩;have n0_:=Am (KeepBut.blk hk (bB BK253.out) NB253_0.out (by simp));have n1_:=Am (KeepBut.trans (by repeat (first|(with_reducible first|exact HK.out|apply KeepBut.set_|apply kN|apply kD|apply kA|refine keep_far ?_ GW253.out _)|exact HK.out)) hk (.inl rfl));have n2_:=Am (hb);have n3_:=Am (hi);clear BK253 HK HB HI0;have BK253:=n0_;have HK:=n1_;have HB:=n2_;have HI0:=n3_;clear n0_ n1_ n2_ n3_;(try clear hb hk hi))|((with_reducible refine gate_callee (f:=25) rfl ?_);refine goesL_ (some 8) rfl rfl Tryd.func25 (by kernel_rfl) rfl #[.string t254] rfl (aE1 rfl) ?_;(with_reducible refine (spec_AddrRead.calls k t254 t256 t257 t260 t261 t262 _ A3.out).mono ?_);rintro e w10 ⟨v258,rfl,ho0,hb⟩;refine ⟨_,rfl,?_⟩;have n0_:=Am (Kd.R_lower ho0 (keep_size (w:=w) (g:=g) (row:=none) (by repeat (first|(with_reducible first|exact HK.out|apply KeepBut.set_|apply kN|apply kD|apply kA|refine keep_far ?_ GW253.out _)|exact HK.out))));have n1_:=Am (IsS60.below (by repeat (first|(with_reducible first|exact HI0.out|apply IsS60.alloc|apply IsS60.drewN|apply IsS60.drew|apply IsS60.set_1|refine IsS60.far ?_ NB0_253.out _)|exact HI0.out)) hb);have n2_:=Am (blk_below (bB BK253.out) hb);have n3_:=Am (KeepBut.trans (by repeat (first|(with_reducible first|exact HK.out|apply KeepBut.set_|apply kN|apply kD|apply kA|refine keep_far ?_ GW253.out _)|exact HK.out)) (KeepBut.of_below hb g none) (.inl rfl));have n4_:=Am (bT (by repeat (first|(with_reducible first|exact HB.out|apply bA|apply bN|apply bD|refine bS ?_ (IsS60.ge HI0.out)|refine bS ?_ GE253.out)|exact HB.out)) hb);clear HI0 BK253 HK HB;have HO259:=n0_;have HI0:=n1_;have BK253:=n2_;have HK:=n3_;have HB:=n4_;clear n0_ n1_ n2_ n3_ n4_;(try clear hb);(try clear ho0))|((with_reducible refine gate_dst (N:=3) rfl ?_);refine box_event ?hg (N:=3) ?hd (cs:=#[.string (⟨#[]⟩:ByteArray), .slice none 0 0, .bool false, .string (⟨#[]⟩:ByteArray)]) (t:=25) ?hr ?_;(case hd=>rfl);(case hg=>rfl);(case hr=>(go_simp <;> rfl));intro gb263 hg w11 hbox hb;have n0_:=bH HO259 hb;have n1_:=Am (IsS60.below (by repeat (first|(with_reducible first|exact HI0.out|apply IsS60.alloc|apply IsS60.drewN|apply IsS60.drew|apply IsS60.set_1|refine IsS60.far ?_ NB0_253.out _)|exact HI0.out)) hb);have n2_:=Am (blk_below (bB BK253.out) hb);have n3_:=Am (KeepBut.trans (by repeat (first|(with_reducible first|exact HK.out|apply KeepBut.set_|apply kN|apply kD|apply kA|refine keep_far ?_ GW253.out _)|exact HK.out)) (KeepBut.of_below hb g none) (.inl rfl));have n4_:=Am (bT (by repeat (first|(with_reducible first|exact HB.out|apply bA|apply bN|apply bD|refine bS ?_ (IsS60.ge HI0.out)|refine bS ?_ GE253.out)|exact HB.out)) hb);have n5_:=Am (hbox);have n6_:=Am ((by rw [hg];exact (keep_size (w:=w) (g:=g) (row:=none) (by repeat (first|(with_reducible first|exact HK.out|apply KeepBut.set_|apply kN|apply kD|apply kA|refine keep_far ?_ GW253.out _)|exact HK.out))):w.heap.size ≤ gb263));have n7_:=Am ((Nat.le_trans HW0.out (by rw [hg];exact (keep_size (w:=w) (g:=g) (row:=none) (by repeat (first|(with_reducible first|exact HK.out|apply KeepBut.set_|apply kN|apply kD|apply kA|refine keep_far ?_ GW253.out _)|exact HK.out))):w.heap.size ≤ gb263):w0.heap.size ≤ gb263));have n8_:=Am ((by rw [hg];exact Nat.ne_of_lt (blk_lt (bB BK253.out)):gb253 ≠ gb263));have n9_:=Am ((by rw [hg];exact Nat.ne_of_gt (blk_lt (bB BK253.out)):gb263 ≠ gb253));have n10_:=Am ((by rw [hg];exact Nat.ne_of_lt (IsS60.lt (show IsS60 w0 _ g s0_0 t255 from by repeat (first|(with_reducible first|exact HI0.out|apply IsS60.alloc|apply IsS60.drewN|apply IsS60.drew|apply IsS60.set_1|refine IsS60.far ?_ NB0_253.out _)|exact HI0.out))):g ≠ gb263));have n11_:=Am ((by rw [hg];exact Nat.ne_of_gt (IsS60.lt (show IsS60 w0 _ g s0_0 t255 from by repeat (first|(with_reducible first|exact HI0.out|apply IsS60.alloc|apply IsS60.drewN|apply IsS60.drew|apply IsS60.set_1|refine IsS60.far ?_ NB0_253.out _)|exact HI0.out))):gb263 ≠ g));clear HO259 HI0 BK253 HK HB;have HO259:=n0_;have HI0:=n1_;have BK253:=n2_;have HK:=n3_;have HB:=n4_;have BK263:=n5_;have GW263:=n6_;have GE263:=n7_;have NB253_263:=n8_;have NB263_253:=n9_;have NB0_263:=n10_;have NB263_0:=n11_;clear n0_ n1_ n2_ n3_ n4_ n5_ n6_ n7_ n8_ n9_ n10_ n11_ hb hbox hg;have hnb12:=NB263_253.out;have hnc12:=NB253_263.out;have hnb13:=NB263_0.out;have hnc13:=NB0_263.out;obtain ⟨hcz14_0,hcz14_1,hcz14_2,hcz14_3,hfz14_0,hfz14_1,hfz14_2,hfz14_3⟩:=bX BK263.out;obtain ⟨Ao15,co15,eo15⟩:=Kd.R_slice HO259.out;subst eo15)|((with_reducible refine gate_callee (f:=52) rfl ?_);refine goesL_ (some 12) rfl rfl Tryd.func52 (by kernel_rfl) rfl #[.pointer (some ⟨g,0,none⟩), .int .i64 12] rfl (aE2 rfl rfl) ?_;(with_reducible refine (spec_l6Rd_pick.calls k g s0_0 t255 12 t264 t265 w0 _ ?side1 ?side2 A4.out).mono ?_);(case side1=>repeat (first|(with_reducible first|exact HI0.out|apply IsS60.alloc|apply IsS60.drewN|apply IsS60.drew|apply IsS60.set_1|refine IsS60.far ?_ NB0_253.out _|refine IsS60.far ?_ NB0_263.out _)|exact HI0.out));(case side2=>repeat (first|(with_reducible first|exact HB.out|apply bA|apply bN|apply bD|refine bS ?_ (IsS60.ge HI0.out)|refine bS ?_ GE253.out|refine bS ?_ GE263.out)|exact HB.out));rintro e w16 ⟨rfl,hi,hb,hk⟩;refine ⟨_,rfl,?_⟩;have n0_:=Am (KeepBut.blk hk (g':=gb253) (o:=.cells #[.string (⟨#[]⟩:ByteArray), .slice none 0 0, .bool false, .string (⟨#[]⟩:ByteArray)] 25 (0,0)) (by refine bB ?_;refine bF ?_ NB253_263.out;refine bB ?_;exact BK253.out) NB253_0.out (by simp));have n1_:=Am (Kd.R_mono (Kd.R_keep (IsS60.apart (show IsS60 w0 _ g s0_0 t255 from by repeat (first|(with_reducible first|exact HI0.out|apply IsS60.alloc|apply IsS60.drewN|apply IsS60.drew|apply IsS60.set_1|refine IsS60.far ?_ NB0_253.out _|refine IsS60.far ?_ NB0_263.out _)|exact HI0.out)) (by (with_reducible repeat (first|apply rA|apply rN|apply rD));exact (bQ HO259.out BK263.out (by decide) _ _ _ _)) (by decide)) hk (fun _ h=>h.2)) (fun _ h=>h.1));have n2_:=Am (KeepBut.blk hk (g':=gb263) (o:=.cells #[.string t256, .slice Ao15 t257.length co15, .bool t260, .string t261] 25 (0,0)) (by refine bB ?_;apply bP;refine bB ?_;exact BK263.out) NB263_0.out (by simp));have n3_:=Am (KeepBut.trans (by repeat (first|(with_reducible first|exact HK.out|apply KeepBut.set_|apply kN|apply kD|apply kA|refine keep_far ?_ GW253.out _|refine keep_far ?_ GW263.out _)|exact HK.out)) hk (.inl rfl));have n4_:=Am (hb);have n5_:=Am (hi);clear BK253 HO259 BK263 HK HB HI0;have BK253:=n0_;have HO259:=n1_;have BK263:=n2_;have HK:=n3_;have HB:=n4_;have HI0:=n5_;clear n0_ n1_ n2_ n3_ n4_ n5_;(try clear hb hk hi)))
   have n0_:=Am (Kd.R_drew HO259.out)
   have n1_:=Am (blk_drew BK253.out)
   have n2_:=Am (blk_drew BK263.out)
   have n3_:=Am (IsS60.drew HI0.out)
   have n4_:=Am (keep_drew HK.out)
   have n5_:=Am (below_drew1 HB.out)
   clear HO259
   clear BK253
   clear BK263
   clear HI0
   clear HK
   clear HB
   have HO259:=n0_
   have BK253:=n1_
   have BK263:=n2_
   have HI0:=n3_
   have HK:=n4_
   have HB:=n5_
   clear n0_ n1_ n2_ n3_ n4_ n5_
   refine start_ (n:=9) (S:=fun w'=>w'.cell? ⟨gb263,0,none⟩ = some (.string t256) ∧ w'.cell? ⟨gb263,1,none⟩ = some (.slice Ao15 t257.length co15) ∧ w'.cell? ⟨gb263,2,none⟩ = some (.bool t260) ∧ w'.cell? ⟨gb263,3,none⟩ = some (.string t261)) (ds:=[8]) #[false,false,false,false,false,false,false,false,false] (by kernel_rfl) rfl rfl ⟨bM BK263.out 0 rfl,bM BK263.out 1 rfl,bM BK263.out 2 rfl,bM BK263.out 3 rfl⟩ (fun hHeld=>?_);refine with_tabW spec_l71Struct.tab4 spec_l71Struct.bits4 (fun HT_ HW_=>?_)
   generalize w16.drew = w17 at HO259 BK253 BK263 HI0 HK HB hHeld ⊢
   refine pure_ (i:=0) (N:=some 15) (v:=?_) (a':=?_) #[true,false,false,false,false,false,false,false,false] rfl rfl (any_of HT_.out (by kernel_rfl)) (fun _ _ _ h=>h) (Or.inl ⟨by rfl,?_⟩) ?_ ?_
   rotate_left
   ·intro w'
    go_simp
    with_reducible rfl
   rotate_left
   ·simp only [Act.put,lT,lZ,lS,i64_w,i32_w]
    rfl
   refine pure_ (i:=2) (N:=some 17) (v:=?_) (a':=?_) #[true,false,true,false,false,false,false,false,false] rfl rfl (any_of HT_.out (by kernel_rfl)) (fun _ _ _ h=>h) (Or.inl ⟨by rfl,?_⟩) ?_ ?_
   rotate_left
   ·intro w'
    go_simp
    with_reducible rfl
   rotate_left
   ·simp only [Act.put,lT,lZ,lS,i64_w,i32_w]
    rfl
   refine take_ (i:=1) (N:=some 16) (v:=?_) (a':=?_) #[true,true,true,false,false,false,false,false,false] rfl rfl (take_ofW HT_.out HW_.out (by kernel_rfl)) (fun _ _ _ h=>h) (Or.inl ⟨by rfl,?_⟩) hHeld ?_ ?_
   rotate_left
   ·rintro w' ⟨s0,s1,s2,s3⟩
    go_simp
    with_reducible rfl
   rotate_left
   ·simp only [Act.put,lT,lZ,lS,i64_w,i32_w]
    rfl
   refine one_ (i:=3) (N:=some 18) #[true,true,true,true,false,false,false,false,false] rfl rfl (one_of HT_.out (by kernel_rfl)) (by decide) (fun K hK=>?_)
   refine Kd.R_lit_step Kd.string _ 9 ?hg (N:=18) ?hd (xs:=([(⟨#[46,46]⟩:ByteArray),(⟨#[]⟩:ByteArray),(⟨#[37,54,49]⟩:ByteArray),(⟨#[65]⟩:ByteArray),(⟨#[97,47,98]⟩:ByteArray),(⟨#[37,51,70]⟩:ByteArray)]:List ByteArray)) (inner:=[.string (⟨#[46,46]⟩:ByteArray), .string (⟨#[]⟩:ByteArray), .string (⟨#[37,54,49]⟩:ByteArray), .string (⟨#[65]⟩:ByteArray), .string (⟨#[97,47,98]⟩:ByteArray), .string (⟨#[37,51,70]⟩:ByteArray)]) (ok:=fun _=>True) (okp:=fun _=>True) ?hr ?hp (fun _ hk=>hk) trivial (Below.refl _ _) (Nat.le_refl _) (by simp) ?_;(case hd=>rfl);(case hg=>rfl);(case hr=>(go_simp <;> rfl));(case hp=>exact (Reps.one (show Kd.M Kd.string _ _ _ (⟨#[46,46]⟩:ByteArray) [.string (⟨#[46,46]⟩:ByteArray)] from rfl) (Reps.one (show Kd.M Kd.string _ _ _ (⟨#[]⟩:ByteArray) [.string (⟨#[]⟩:ByteArray)] from rfl) (Reps.one (show Kd.M Kd.string _ _ _ (⟨#[37,54,49]⟩:ByteArray) [.string (⟨#[37,54,49]⟩:ByteArray)] from rfl) (Reps.one (show Kd.M Kd.string _ _ _ (⟨#[65]⟩:ByteArray) [.string (⟨#[65]⟩:ByteArray)] from rfl) (Reps.one (show Kd.M Kd.string _ _ _ (⟨#[97,47,98]⟩:ByteArray) [.string (⟨#[97,47,98]⟩:ByteArray)] from rfl) (Reps.one (show Kd.M Kd.string _ _ _ (⟨#[37,51,70]⟩:ByteArray) [.string (⟨#[37,51,70]⟩:ByteArray)] from rfl) (Reps.none _ _))))))))
   intro v267 w18 ho19 hb hg_ hnew_
   clear hg_ hnew_
   (first|rw [← Ny266.out] at ho19|(simp only [Int.reduceToNat] at ho19;rw [← Ny266.out] at ho19))
   have n0_:=Am (Kd.R_elder' (bR HO259.out) (Kd.R_base ho19) hb)
   have n1_:=Am (Kd.R_lower (Kd.R_new' ho19 (Kd.R_lt (bR HO259.out))) (keep_size (w:=w) (g:=g) (row:=none) (by repeat (first|(with_reducible first|exact HK.out|apply KeepBut.set_|apply kN|apply kD|apply kA|refine keep_far ?_ GW253.out _|refine keep_far ?_ GW263.out _)|exact HK.out))))
   have n2_:=Am (IsS60.below (by repeat (first|(with_reducible first|exact HI0.out|apply IsS60.alloc|apply IsS60.drewN|apply IsS60.drew|apply IsS60.set_1|refine IsS60.far ?_ NB0_253.out _|refine IsS60.far ?_ NB0_263.out _)|exact HI0.out)) hb)
   have n3_:=Am (blk_below (bB BK253.out) hb)
   have n4_:=Am (blk_below (bB BK263.out) hb)
   have n5_:=Am (KeepBut.trans (by repeat (first|(with_reducible first|exact HK.out|apply KeepBut.set_|apply kN|apply kD|apply kA|refine keep_far ?_ GW253.out _|refine keep_far ?_ GW263.out _)|exact HK.out)) (KeepBut.of_below hb g none) (.inl rfl))
   have n6_:=Am (bT (by repeat (first|(with_reducible first|exact HB.out|apply bA|apply bN|apply bD|refine bS ?_ (IsS60.ge HI0.out)|refine bS ?_ GE253.out|refine bS ?_ GE263.out)|exact HB.out)) hb)
   clear HO259
   clear HI0
   clear BK253
   clear BK263
   clear HK
   clear HB
   have HO259:=n0_
   have HO268:=n1_
   have HI0:=n2_
   have BK253:=n3_
   have BK263:=n4_
   have HK:=n5_
   have HB:=n6_
   clear n0_ n1_ n2_ n3_ n4_ n5_ n6_
   clear hb ho19
   obtain ⟨Ao20,co20,eo20⟩:=Kd.R_slice HO268.out
   (first|subst eo20|(injection eo20 with f1_ f2_ f3_;have f4_:=f1_.symm;have f5_:=f3_.symm;clear f1_ f2_ f3_;subst f4_;subst f5_))
   refine hK.out _ _ ⟨bM BK263.out 0 rfl,bM BK263.out 1 rfl,bM BK263.out 2 rfl,bM BK263.out 3 rfl⟩ (fun hHeld=>?_)
   clear hK K
   refine norm_ (a':=?_) ?_ ?_
   rotate_left
   ·show Act.put _ (some 18) _ = _
    simp only [Act.put,lT,lZ,lS,i64_w,i32_w]
    rfl
   refine one_ (i:=4) (N:=some 19) #[true,true,true,true,true,false,false,false,false] rfl rfl (one_of HT_.out (by kernel_rfl)) (by decide) (fun K hK=>?_)
   refine goes_ Tryd.func53 (by kernel_rfl) rfl #[.pointer (some ⟨g,0,none⟩), .slice Ao20 y266.length co20] (by rfl) rfl rfl (by (try simp only [List.map_toArray,List.map_cons,List.map_nil]);first|done|rfl|(simp only [List.length_drop,List.length_take];rfl)) ?_
   with_reducible refine (spec_l6Rd_of.calls k g s0_0 t265 _ _ y266 t269 t270 w0 _ ?side1 ?side2 ?side3 ?side4 ?side5 A6.out).mono ?_
   (case side1=>repeat (first|(with_reducible first|exact HI0.out|apply IsS60.alloc|apply IsS60.drewN|apply IsS60.drew|apply IsS60.set_1|refine IsS60.far ?_ NB0_253.out _|refine IsS60.far ?_ NB0_263.out _)|exact HI0.out))
   (case side2=>repeat (first|(with_reducible first|exact HB.out|apply bA|apply bN|apply bD|refine bS ?_ (IsS60.ge HI0.out)|refine bS ?_ GE253.out|refine bS ?_ GE263.out)|exact HB.out))
   (case side3=>repeat (first|exact (Kd.R_reads' HO268.out).2.2|(with_reducible refine bC ?_)))
   (case side4=>exact (Kd.R_reads' HO268.out).2.1)
   (case side5=>exact far_slice (IsS60.own_ne HI0.out HO268.out (by decide)))
   rintro e w21 ⟨rfl,hi,hb,hk⟩
   refine ⟨_,rfl,?_⟩
   have n0_:=Am (KeepBut.blk hk (bB BK253.out) NB253_0.out (by simp))
   have n1_:=Am (Kd.R_mono (Kd.R_keep (IsS60.apart (show IsS60 w0 _ g s0_0 t265 from by repeat (first|(with_reducible first|exact HI0.out|apply IsS60.alloc|apply IsS60.drewN|apply IsS60.drew|apply IsS60.set_1|refine IsS60.far ?_ NB0_253.out _|refine IsS60.far ?_ NB0_263.out _)|exact HI0.out)) (bR HO259.out) (by decide)) hk (fun _ h=>h.2)) (fun _ h=>h.1))
   have n2_:=Am (KeepBut.blk hk (bB BK263.out) NB263_0.out (by simp))
   have n3_:=Am (Kd.R_mono (Kd.R_keep (IsS60.apart (show IsS60 w0 _ g s0_0 t265 from by repeat (first|(with_reducible first|exact HI0.out|apply IsS60.alloc|apply IsS60.drewN|apply IsS60.drew|apply IsS60.set_1|refine IsS60.far ?_ NB0_253.out _|refine IsS60.far ?_ NB0_263.out _)|exact HI0.out)) (bR HO268.out) (by decide)) hk (fun _ h=>h.2)) (fun _ h=>h.1))
   have n4_:=Am (KeepBut.trans (by repeat (first|(with_reducible first|exact HK.out|apply KeepBut.set_|apply kN|apply kD|apply kA|refine keep_far ?_ GW253.out _|refine keep_far ?_ GW263.out _)|exact HK.out)) hk (.inl rfl))
   have n5_:=Am (hb)
   have n6_:=Am (hi)
   clear BK253
   clear HO259
   clear BK263
   clear HO268
   clear HK
   clear HB
   clear HI0
   have BK253:=n0_
   have HO259:=n1_
   have BK263:=n2_
   have HO268:=n3_
   have HK:=n4_
   have HB:=n5_
   have HI0:=n6_
   clear n0_ n1_ n2_ n3_ n4_ n5_ n6_
   (try clear hb)
   (try clear hb2)
   (try clear hk)
   (try clear hi)
   refine hK.out _ _ ⟨bM BK263.out 0 rfl,bM BK263.out 1 rfl,bM BK263.out 2 rfl,bM BK263.out 3 rfl⟩ (fun hHeld=>?_)
   clear hK K
   refine norm_ (a':=?_) ?_ ?_
   rotate_left
   ·show Act.put _ (some 19) _ = _
    simp only [Act.put,lT,lZ,lS,i64_w,i32_w]
    rfl
   refine one_ (i:=5) (N:=some 20) #[true,true,true,true,true,true,false,false,false] rfl rfl (one_of HT_.out (by kernel_rfl)) (by decide) (fun K hK=>?_)
   refine value_ (w1:=?_) (v:=?_) (by rfl) rfl ?_ ?_
   rotate_left 2
   ·go_simp
    constructor
    ·rfl
    ·rfl
   refine hK.out _ _ ⟨(blk_cell (blk_alloc BK263.out _) 0).trans rfl,(blk_cell (blk_alloc BK263.out _) 1).trans rfl,(blk_cell (blk_alloc BK263.out _) 2).trans rfl,(blk_cell (blk_alloc BK263.out _) 3).trans rfl⟩ (fun hHeld=>?_)
   clear hK K
   refine norm_ (a':=?_) ?_ ?_
   rotate_left
   ·show Act.put _ (some 20) _ = _
    simp only [Act.put,lT,lZ,lS,i64_w,i32_w]
    rfl
   refine one_ (i:=6) (N:=some 21) #[true,true,true,true,true,true,true,false,false] rfl rfl (one_of HT_.out (by kernel_rfl)) (by decide) (fun K hK=>?_)
   refine Kd.R_append_step Kd.string w.heap.size (by rfl) (.tmp 16) (.tmp 20) 23 9 (.string ⟨#[]⟩) 16 rfl Tryd.underlying23 info9 rfl (by decide) (by omega) (.slice Ao15 t257.length co15) t257 t269 [.string t269] (fun k_=>some k_ ≠ (.slice Ao20 y266.length co20:Value).ownBlock) (fun _=>False) rfl rfl ?aP (fun _ hk=>hk.elim) ?aF ?aO (Below.refl _ _) ?aS ?aL ?_
   (case aP=>exact rfl)
   (case aF=>exact (fun k_ hk=>Kd.fresh' (Kd.R_lt (bR HO268.out)) k_ hk))
   (case aO=>exact (by (with_reducible repeat (first|apply rA|apply rN|apply rD));exact Kd.R_mono HO259.out (fun _ hk=>hk.2)))
   (case aS=>exact (keep_size (w:=w) (g:=g) (row:=none) (by repeat (first|(with_reducible first|exact HK.out|apply KeepBut.set_|apply kN|apply kD|apply kA|refine keep_far ?_ GW253.out _|refine keep_far ?_ GW263.out _)|exact HK.out))))
   (case aL=>have:=LMc7.out;omega)
   intro v272 w22 ho hb hg hat
   rw [← Ny271.out] at ho
   have n0_:=Am (IsS60.grown (by repeat (first|(with_reducible first|exact HI0.out|apply IsS60.alloc|apply IsS60.drewN|apply IsS60.drew|apply IsS60.set_1|refine IsS60.far ?_ NB0_253.out _|refine IsS60.far ?_ NB0_263.out _)|exact HI0.out)) hg (IsS60.own_ne HI0.out HO259.out (by decide)))
   have n1_:=Am (blk_grown (bB BK253.out) hg (Kd.R_ne HO259.out BK253.out (by decide)))
   have n2_:=Am (blk_grown (bB BK263.out) hg (Kd.R_ne HO259.out BK263.out (by decide)))
   have n3_:=Am (Kd.R_after (ok:=(fun _=>True)) (bR HO268.out) hg hat)
   have n4_:=Am (below_weaken (by repeat (first|(with_reducible first|exact HB.out|apply bA|apply bN|apply bD|refine bS ?_ (IsS60.ge HI0.out)|refine bS ?_ GE253.out|refine bS ?_ GE263.out)|exact HB.out)) HL.out hb)
   have n5_:=Am (KeepBut.trans (by repeat (first|(with_reducible first|exact HK.out|apply KeepBut.set_|apply kN|apply kD|apply kA|refine keep_far ?_ GW253.out _|refine keep_far ?_ GW263.out _)|exact HK.out)) (KeepBut.of_grown hg g) (Kd.R_base2 HO259.out))
   have n6_:=Am (ho)
   clear HI0
   clear BK253
   clear BK263
   clear HO268
   clear HB
   clear HK
   clear HO259
   have HI0:=n0_
   have BK253:=n1_
   have BK263:=n2_
   have HO268:=n3_
   have HB:=n4_
   have HK:=n5_
   have HO273:=n6_
   clear n0_ n1_ n2_ n3_ n4_ n5_ n6_
   clear ho hb hg hat
   obtain ⟨Ao23,co23,eo23⟩:=Kd.R_slice HO273.out
   (first|subst eo23|(injection eo23 with f1_ f2_ f3_;have f4_:=f1_.symm;have f5_:=f3_.symm;clear f1_ f2_ f3_;subst f4_;subst f5_))
   refine hK.out _ _ ⟨bM BK263.out 0 rfl,bM BK263.out 1 rfl,bM BK263.out 2 rfl,bM BK263.out 3 rfl⟩ (fun hHeld=>?_)
   clear hK K
   refine norm_ (a':=?_) ?_ ?_
   rotate_left
   ·show Act.put _ (some 21) _ = _
    simp only [Act.put,lT,lZ,lS,i64_w,i32_w]
    rfl
   refine pure_ (i:=7) (N:=some 22) (v:=?_) (a':=?_) #[true,true,true,true,true,true,true,true,false] rfl rfl (any_of HT_.out (by kernel_rfl)) (fun _ _ _ h=>h) (Or.inl ⟨by rfl,?_⟩) ?_ ?_
   rotate_left
   ·intro w'
    go_simp
    with_reducible rfl
   rotate_left
   ·simp only [Act.put,lT,lZ,lS,i64_w,i32_w]
    rfl
   refine last_ (i:=8) (N:=none) #[true,true,true,true,true,true,true,true,true] rfl rfl (one_of HT_.out (by kernel_rfl)) (by decide) (fun K hK=>?_)
   have hs24:w22.cell? ⟨gb263,1,none⟩ = some (.slice Ao15 t257.length co15):=bM BK263.out 1 rfl
   have hfs24:=bZ BK263.out 1
   have hns24_0:=NB253_263.out
   have hms24_0:=NB263_253.out
   refine skip_ (w1:=?_) (by rfl) rfl ?_ ?_
   rotate_left
   ·go_simp
    rfl
   refine hK.out _ _ ?_
   clear hK K
   refine done_ (done_of HT_.out (by kernel_rfl)) ?_
   obtain ⟨hcz25_0,hcz25_1,hcz25_2,hcz25_3,hfz25_0,hfz25_1,hfz25_2,hfz25_3⟩:=bX BK263.out







   have hnb26:=NB253_0.out
   have hnc26:=NB0_253.out
   obtain ⟨hcz27_0,hcz27_1,hcz27_2,hcz27_3,hfz27_0,hfz27_1,hfz27_2,hfz27_3⟩:=bX BK253.out







   try go_wp2
   refine bodyPost_ret (results_cell_row rfl _ _ gb253 25 #[.string t256, .slice Ao23 y271.length co23, .bool t260, .string t261] (0,0) _ rfl (by refine bB ?_;apply bP;refine bB ?_;refine blk_far ?_ NB253_263.out _;refine bB ?_;exact BK253.out) Tryd.underlying25 rfl (by kernel_rfl)) rfl ?_
   exact ⟨_,by first|rfl|(simp <;> rfl)|(simp [*] <;> rfl),by (with_reducible repeat (first|apply rA|apply rN|apply rD));exact Kd.R_mono (Kd.R_far (p:=⟨gb253,3,none⟩) (Kd.R_far (p:=⟨gb253,2,none⟩) (Kd.R_far (p:=⟨gb253,1,none⟩) (Kd.R_far (p:=⟨gb253,0,none⟩) (Kd.R_far (p:=⟨gb263,1,none⟩) (Kd.R_types (Kd.R_types HO273.out BK263.out (by decide)) BK253.out (by decide)) (fun _ hk=>hk.1.2) (.slice Ao23 y271.length co23)) (fun _ hk=>hk.2) (.string t256)) (fun _ hk=>hk.2) (.slice Ao23 y271.length co23)) (fun _ hk=>hk.2) (.bool t260)) (fun _ hk=>hk.2) (.string t261)) (fun _ hk=>trivial),by repeat (first|(with_reducible first|exact HI0.out|apply IsS60.alloc|apply IsS60.drewN|apply IsS60.drew|apply IsS60.set_1|refine IsS60.far ?_ NB0_253.out _|refine IsS60.far ?_ NB0_263.out _)|exact HI0.out),by repeat (first|(with_reducible first|exact HB.out|apply bA|apply bN|apply bD|refine bS ?_ (IsS60.ge HI0.out)|refine bS ?_ GE253.out|refine bS ?_ GE263.out)|exact HB.out),by repeat (first|(with_reducible first|exact HK.out|apply KeepBut.set_|apply kN|apply kD|apply kA|refine keep_far ?_ GW253.out _|refine keep_far ?_ GW263.out _)|exact HK.out)⟩
  ·rw [if_neg c7] at H
   exact absurd H (by simp)
 ·rw [if_neg c5] at H
  have c5b0:(t264 == 0) = false:=beq_eq_false_iff_ne.mpr c5
  have c5b1:(t264 != 0) = true:=bne_iff_ne.mpr c5
  by_cases c28:t264 = 1
  ·rw [if_pos c28] at H
   have c28b0:(t264 == 1) = true:=beq_iff_eq.mpr c28
   have c28b1:(t264 != 1) = false:=bne_eq_false_iff_eq.mpr c28
   clear c28
   obtain ⟨y274,hy274⟩:∃ y_:List ByteArray,y_ = (([(⟨#[]⟩:ByteArray),(⟨#[65,98]⟩:ByteArray),(⟨#[116,111,111,108,111,110,103]⟩:ByteArray),(⟨#[97,49]⟩:ByteArray)]:List ByteArray)):=⟨_,rfl⟩
   replace H:((spec_l6Rd_of.f k s0_0 t265 y274).bind fun bt277=>(some (bt277.1,t257,t260,t261,bt277.2))) = some (r1,r2,r3,r4,r5):=by first|(rw [hy274];with_reducible exact H)|(have H2_:=(Option.bind_some _ _).symm.trans H;rw [hy274];with_reducible exact H2_)|(have H2_:=(Option.bind_some _ _).symm.trans H;with_reducible exact H2_)|with_reducible exact H|(rw [hy274];exact H)|exact H
   have Ny274:=Am hy274
   clear hy274
   replace H:=bI H
   obtain ⟨⟨t277,t278⟩,A290,H⟩:=H
   replace H:(some (t277,t257,t260,t261,t278)) = some (r1,r2,r3,r4,r5):=H
   have A29:=Am A290
   clear A290
   simp only [Option.some.injEq,Prod.mk.injEq] at H
   obtain ⟨rfl,rfl,rfl,rfl,rfl⟩:=H
   go_enter Tryd.func30,Tryd.ntmps30
   go_wp2_with (first|((with_reducible refine gate_dst (N:=2) rfl ?_);refine box_event ?hg (N:=2) ?hd (cs:=#[.string (⟨#[]⟩:ByteArray), .slice none 0 0, .bool false, .string (⟨#[]⟩:ByteArray)]) (t:=25) ?hr ?_;(case hd=>rfl);(case hg=>rfl);(case hr=>(go_simp <;> rfl));intro gb253 hg w30 hbox hb;have n0_:=Am (IsS60.below (by repeat (first|(with_reducible first|exact HI0.out|apply IsS60.alloc|apply IsS60.drewN|apply IsS60.drew|apply IsS60.set_1)|exact HI0.out)) hb);have n1_:=Am (KeepBut.trans (by repeat (first|(with_reducible first|exact HK.out|apply KeepBut.set_|apply kN|apply kD|apply kA)|exact HK.out)) (KeepBut.of_below hb g none) (.inl rfl));have n2_:=Am (bT (by repeat (first|(with_reducible first|exact HB.out|apply bA|apply bN|apply bD|refine bS ?_ (IsS60.ge HI0.out))|exact HB.out)) hb);have n3_:=Am (hbox);have n4_:=Am ((by rw [hg];exact (keep_size (w:=w) (g:=g) (row:=none) (by repeat (first|(with_reducible first|exact HK.out|apply KeepBut.set_|apply kN|apply kD|apply kA)|exact HK.out))):w.heap.size ≤ gb253));have n5_:=Am ((Nat.le_trans HW0.out (by rw [hg];exact (keep_size (w:=w) (g:=g) (row:=none) (by repeat (first|(with_reducible first|exact HK.out|apply KeepBut.set_|apply kN|apply kD|apply kA)|exact HK.out))):w.heap.size ≤ gb253):w0.heap.size ≤ gb253));have n6_:=Am ((by rw [hg];exact Nat.ne_of_lt (IsS60.lt (show IsS60 w0 _ g s0_0 s0_1 from by repeat (first|(with_reducible first|exact HI0.out|apply IsS60.alloc|apply IsS60.drewN|apply IsS60.drew|apply IsS60.set_1)|exact HI0.out))):g ≠ gb253));have n7_:=Am ((by rw [hg];exact Nat.ne_of_gt (IsS60.lt (show IsS60 w0 _ g s0_0 s0_1 from by repeat (first|(with_reducible first|exact HI0.out|apply IsS60.alloc|apply IsS60.drewN|apply IsS60.drew|apply IsS60.set_1)|exact HI0.out))):gb253 ≠ g));clear HI0 HK HB;have HI0:=n0_;have HK:=n1_;have HB:=n2_;have BK253:=n3_;have GW253:=n4_;have GE253:=n5_;have NB0_253:=n6_;have NB253_0:=n7_;clear n0_ n1_ n2_ n3_ n4_ n5_ n6_ n7_ hb hbox hg)|((with_reducible refine gate_callee (f:=57) rfl ?_);refine goesL_ (some 7) rfl rfl Tryd.func57 (by kernel_rfl) rfl #[.pointer (some ⟨g,0,none⟩)] rfl (aE1 rfl) ?_;(with_reducible refine (spec_l71Addr.calls k g s0_0 s0_1 t254 t255 w0 _ ?side1 ?side2 A2.out).mono ?_);(case side1=>repeat (first|(with_reducible first|exact HI0.out|apply IsS60.alloc|apply IsS60.drewN|apply IsS60.drew|apply IsS60.set_1|refine IsS60.far ?_ NB0_253.out _)|exact HI0.out));(case side2=>repeat (first|(with_reducible first|exact HB.out|apply bA|apply bN|apply bD|refine bS ?_ (IsS60.ge HI0.out)|refine bS ?_ GE253.out)|exact HB.out));rintro e w31 ⟨rfl,hi,hb,hk⟩;refine ⟨_,rfl,?_⟩;have n0_:=Am (KeepBut.blk hk (bB BK253.out) NB253_0.out (by simp));have n1_:=Am (KeepBut.trans (by repeat (first|(with_reducible first|exact HK.out|apply KeepBut.set_|apply kN|apply kD|apply kA|refine keep_far ?_ GW253.out _)|exact HK.out)) hk (.inl rfl));have n2_:=Am (hb);have n3_:=Am (hi);clear BK253 HK HB HI0;have BK253:=n0_;have HK:=n1_;have HB:=n2_;have HI0:=n3_;clear n0_ n1_ n2_ n3_;(try clear hb hk hi))|((with_reducible refine gate_callee (f:=25) rfl ?_);refine goesL_ (some 8) rfl rfl Tryd.func25 (by kernel_rfl) rfl #[.string t254] rfl (aE1 rfl) ?_;(with_reducible refine (spec_AddrRead.calls k t254 t256 t257 t260 t261 t262 _ A3.out).mono ?_);rintro e w32 ⟨v258,rfl,ho0,hb⟩;refine ⟨_,rfl,?_⟩;have n0_:=Am (Kd.R_lower ho0 (keep_size (w:=w) (g:=g) (row:=none) (by repeat (first|(with_reducible first|exact HK.out|apply KeepBut.set_|apply kN|apply kD|apply kA|refine keep_far ?_ GW253.out _)|exact HK.out))));have n1_:=Am (IsS60.below (by repeat (first|(with_reducible first|exact HI0.out|apply IsS60.alloc|apply IsS60.drewN|apply IsS60.drew|apply IsS60.set_1|refine IsS60.far ?_ NB0_253.out _)|exact HI0.out)) hb);have n2_:=Am (blk_below (bB BK253.out) hb);have n3_:=Am (KeepBut.trans (by repeat (first|(with_reducible first|exact HK.out|apply KeepBut.set_|apply kN|apply kD|apply kA|refine keep_far ?_ GW253.out _)|exact HK.out)) (KeepBut.of_below hb g none) (.inl rfl));have n4_:=Am (bT (by repeat (first|(with_reducible first|exact HB.out|apply bA|apply bN|apply bD|refine bS ?_ (IsS60.ge HI0.out)|refine bS ?_ GE253.out)|exact HB.out)) hb);clear HI0 BK253 HK HB;have HO259:=n0_;have HI0:=n1_;have BK253:=n2_;have HK:=n3_;have HB:=n4_;clear n0_ n1_ n2_ n3_ n4_;(try clear hb);(try clear ho0))|((with_reducible refine gate_dst (N:=3) rfl ?_);refine box_event ?hg (N:=3) ?hd (cs:=#[.string (⟨#[]⟩:ByteArray), .slice none 0 0, .bool false, .string (⟨#[]⟩:ByteArray)]) (t:=25) ?hr ?_;(case hd=>rfl);(case hg=>rfl);(case hr=>(go_simp <;> rfl));intro gb263 hg w33 hbox hb;have n0_:=bH HO259 hb;have n1_:=Am (IsS60.below (by repeat (first|(with_reducible first|exact HI0.out|apply IsS60.alloc|apply IsS60.drewN|apply IsS60.drew|apply IsS60.set_1|refine IsS60.far ?_ NB0_253.out _)|exact HI0.out)) hb);have n2_:=Am (blk_below (bB BK253.out) hb);have n3_:=Am (KeepBut.trans (by repeat (first|(with_reducible first|exact HK.out|apply KeepBut.set_|apply kN|apply kD|apply kA|refine keep_far ?_ GW253.out _)|exact HK.out)) (KeepBut.of_below hb g none) (.inl rfl));have n4_:=Am (bT (by repeat (first|(with_reducible first|exact HB.out|apply bA|apply bN|apply bD|refine bS ?_ (IsS60.ge HI0.out)|refine bS ?_ GE253.out)|exact HB.out)) hb);have n5_:=Am (hbox);have n6_:=Am ((by rw [hg];exact (keep_size (w:=w) (g:=g) (row:=none) (by repeat (first|(with_reducible first|exact HK.out|apply KeepBut.set_|apply kN|apply kD|apply kA|refine keep_far ?_ GW253.out _)|exact HK.out))):w.heap.size ≤ gb263));have n7_:=Am ((Nat.le_trans HW0.out (by rw [hg];exact (keep_size (w:=w) (g:=g) (row:=none) (by repeat (first|(with_reducible first|exact HK.out|apply KeepBut.set_|apply kN|apply kD|apply kA|refine keep_far ?_ GW253.out _)|exact HK.out))):w.heap.size ≤ gb263):w0.heap.size ≤ gb263));have n8_:=Am ((by rw [hg];exact Nat.ne_of_lt (blk_lt (bB BK253.out)):gb253 ≠ gb263));have n9_:=Am ((by rw [hg];exact Nat.ne_of_gt (blk_lt (bB BK253.out)):gb263 ≠ gb253));have n10_:=Am ((by rw [hg];exact Nat.ne_of_lt (IsS60.lt (show IsS60 w0 _ g s0_0 t255 from by repeat (first|(with_reducible first|exact HI0.out|apply IsS60.alloc|apply IsS60.drewN|apply IsS60.drew|apply IsS60.set_1|refine IsS60.far ?_ NB0_253.out _)|exact HI0.out))):g ≠ gb263));have n11_:=Am ((by rw [hg];exact Nat.ne_of_gt (IsS60.lt (show IsS60 w0 _ g s0_0 t255 from by repeat (first|(with_reducible first|exact HI0.out|apply IsS60.alloc|apply IsS60.drewN|apply IsS60.drew|apply IsS60.set_1|refine IsS60.far ?_ NB0_253.out _)|exact HI0.out))):gb263 ≠ g));clear HO259 HI0 BK253 HK HB;have HO259:=n0_;have HI0:=n1_;have BK253:=n2_;have HK:=n3_;have HB:=n4_;have BK263:=n5_;have GW263:=n6_;have GE263:=n7_;have NB253_263:=n8_;have NB263_253:=n9_;have NB0_263:=n10_;have NB263_0:=n11_;clear n0_ n1_ n2_ n3_ n4_ n5_ n6_ n7_ n8_ n9_ n10_ n11_ hb hbox hg;have hnb34:=NB263_253.out;have hnc34:=NB253_263.out;have hnb35:=NB263_0.out;have hnc35:=NB0_263.out;obtain ⟨hcz36_0,hcz36_1,hcz36_2,hcz36_3,hfz36_0,hfz36_1,hfz36_2,hfz36_3⟩:=bX BK263.out;obtain ⟨Ao37,co37,eo37⟩:=Kd.R_slice HO259.out;subst eo37)|((with_reducible refine gate_callee (f:=52) rfl ?_);refine goesL_ (some 12) rfl rfl Tryd.func52 (by kernel_rfl) rfl #[.pointer (some ⟨g,0,none⟩), .int .i64 12] rfl (aE2 rfl rfl) ?_;(with_reducible refine (spec_l6Rd_pick.calls k g s0_0 t255 12 t264 t265 w0 _ ?side1 ?side2 A4.out).mono ?_);(case side1=>repeat (first|(with_reducible first|exact HI0.out|apply IsS60.alloc|apply IsS60.drewN|apply IsS60.drew|apply IsS60.set_1|refine IsS60.far ?_ NB0_253.out _|refine IsS60.far ?_ NB0_263.out _)|exact HI0.out));(case side2=>repeat (first|(with_reducible first|exact HB.out|apply bA|apply bN|apply bD|refine bS ?_ (IsS60.ge HI0.out)|refine bS ?_ GE253.out|refine bS ?_ GE263.out)|exact HB.out));rintro e w38 ⟨rfl,hi,hb,hk⟩;refine ⟨_,rfl,?_⟩;have n0_:=Am (KeepBut.blk hk (g':=gb253) (o:=.cells #[.string (⟨#[]⟩:ByteArray), .slice none 0 0, .bool false, .string (⟨#[]⟩:ByteArray)] 25 (0,0)) (by refine bB ?_;refine bF ?_ NB253_263.out;refine bB ?_;exact BK253.out) NB253_0.out (by simp));have n1_:=Am (Kd.R_mono (Kd.R_keep (IsS60.apart (show IsS60 w0 _ g s0_0 t255 from by repeat (first|(with_reducible first|exact HI0.out|apply IsS60.alloc|apply IsS60.drewN|apply IsS60.drew|apply IsS60.set_1|refine IsS60.far ?_ NB0_253.out _|refine IsS60.far ?_ NB0_263.out _)|exact HI0.out)) (by (with_reducible repeat (first|apply rA|apply rN|apply rD));exact (bQ HO259.out BK263.out (by decide) _ _ _ _)) (by decide)) hk (fun _ h=>h.2)) (fun _ h=>h.1));have n2_:=Am (KeepBut.blk hk (g':=gb263) (o:=.cells #[.string t256, .slice Ao37 t257.length co37, .bool t260, .string t261] 25 (0,0)) (by refine bB ?_;apply bP;refine bB ?_;exact BK263.out) NB263_0.out (by simp));have n3_:=Am (KeepBut.trans (by repeat (first|(with_reducible first|exact HK.out|apply KeepBut.set_|apply kN|apply kD|apply kA|refine keep_far ?_ GW253.out _|refine keep_far ?_ GW263.out _)|exact HK.out)) hk (.inl rfl));have n4_:=Am (hb);have n5_:=Am (hi);clear BK253 HO259 BK263 HK HB HI0;have BK253:=n0_;have HO259:=n1_;have BK263:=n2_;have HK:=n3_;have HB:=n4_;have HI0:=n5_;clear n0_ n1_ n2_ n3_ n4_ n5_;(try clear hb hk hi))|((with_reducible refine gate_dst (N:=26) rfl ?_);refine Kd.R_lit Kd.string _ 9 ?hg (N:=26) ?hd (xs:=([(⟨#[]⟩:ByteArray),(⟨#[65,98]⟩:ByteArray),(⟨#[116,111,111,108,111,110,103]⟩:ByteArray),(⟨#[97,49]⟩:ByteArray)]:List ByteArray)) (inner:=[.string (⟨#[]⟩:ByteArray), .string (⟨#[65,98]⟩:ByteArray), .string (⟨#[116,111,111,108,111,110,103]⟩:ByteArray), .string (⟨#[97,49]⟩:ByteArray)]) (ok:=fun _=>True) (okp:=fun _=>True) ?hr ?hp (fun _ hk=>hk) trivial (Below.refl _ _) (Nat.le_refl _) (by simp) ?_;(case hd=>rfl);(case hg=>rfl);(case hr=>(go_simp <;> rfl));(case hp=>exact (Reps.one (show Kd.M Kd.string _ _ _ (⟨#[]⟩:ByteArray) [.string (⟨#[]⟩:ByteArray)] from rfl) (Reps.one (show Kd.M Kd.string _ _ _ (⟨#[65,98]⟩:ByteArray) [.string (⟨#[65,98]⟩:ByteArray)] from rfl) (Reps.one (show Kd.M Kd.string _ _ _ (⟨#[116,111,111,108,111,110,103]⟩:ByteArray) [.string (⟨#[116,111,111,108,111,110,103]⟩:ByteArray)] from rfl) (Reps.one (show Kd.M Kd.string _ _ _ (⟨#[97,49]⟩:ByteArray) [.string (⟨#[97,49]⟩:ByteArray)] from rfl) (Reps.none _ _))))));intro v275 w39 ho40 hb hg_ hnew_;clear hg_ hnew_;(first|rw [← Ny274.out] at ho40|(simp only [Int.reduceToNat] at ho40;rw [← Ny274.out] at ho40));have n0_:=Am (Kd.R_elder' (bR HO259.out) (Kd.R_base ho40) hb);have n1_:=Am (Kd.R_lower (Kd.R_new' ho40 (Kd.R_lt (bR HO259.out))) (keep_size (w:=w) (g:=g) (row:=none) (by repeat (first|(with_reducible first|exact HK.out|apply KeepBut.set_|apply kN|apply kD|apply kA|refine keep_far ?_ GW253.out _|refine keep_far ?_ GW263.out _)|exact HK.out))));have n2_:=Am (IsS60.below (by repeat (first|(with_reducible first|exact HI0.out|apply IsS60.alloc|apply IsS60.drewN|apply IsS60.drew|apply IsS60.set_1|refine IsS60.far ?_ NB0_253.out _|refine IsS60.far ?_ NB0_263.out _)|exact HI0.out)) hb);have n3_:=Am (blk_below (bB BK253.out) hb);have n4_:=Am (blk_below (bB BK263.out) hb);have n5_:=Am (KeepBut.trans (by repeat (first|(with_reducible first|exact HK.out|apply KeepBut.set_|apply kN|apply kD|apply kA|refine keep_far ?_ GW253.out _|refine keep_far ?_ GW263.out _)|exact HK.out)) (KeepBut.of_below hb g none) (.inl rfl));have n6_:=Am (bT (by repeat (first|(with_reducible first|exact HB.out|apply bA|apply bN|apply bD|refine bS ?_ (IsS60.ge HI0.out)|refine bS ?_ GE253.out|refine bS ?_ GE263.out)|exact HB.out)) hb);clear HO259 HI0 BK253 BK263 HK HB;have HO259:=n0_;have HO276:=n1_;have HI0:=n2_;have BK253:=n3_;have BK263:=n4_;have HK:=n5_;have HB:=n6_;clear n0_ n1_ n2_ n3_ n4_ n5_ n6_ hb ho40;obtain ⟨Ao41,co41,eo41⟩:=Kd.R_slice HO276.out;subst eo41)|((with_reducible refine gate_callee (f:=53) rfl ?_);refine goesL_ (some 27) rfl rfl Tryd.func53 (by kernel_rfl) rfl #[.pointer (some ⟨g,0,none⟩), .slice Ao41 y274.length co41] rfl (aE2 rfl rfl) ?_;(with_reducible refine (spec_l6Rd_of.calls k g s0_0 t265 _ _ y274 t277 t278 w0 _ ?side1 ?side2 ?side3 ?side4 ?side5 A29.out).mono ?_);(case side1=>repeat (first|(with_reducible first|exact HI0.out|apply IsS60.alloc|apply IsS60.drewN|apply IsS60.drew|apply IsS60.set_1|refine IsS60.far ?_ NB0_253.out _|refine IsS60.far ?_ NB0_263.out _)|exact HI0.out));(case side2=>repeat (first|(with_reducible first|exact HB.out|apply bA|apply bN|apply bD|refine bS ?_ (IsS60.ge HI0.out)|refine bS ?_ GE253.out|refine bS ?_ GE263.out)|exact HB.out));(case side3=>repeat (first|exact (Kd.R_reads' HO276.out).2.2|(with_reducible refine bC ?_)));(case side4=>exact (Kd.R_reads' HO276.out).2.1);(case side5=>exact far_slice (IsS60.own_ne HI0.out HO276.out (by decide)));rintro e w42 ⟨rfl,hi,hb,hk⟩;refine ⟨_,rfl,?_⟩;have n0_:=Am (KeepBut.blk hk (bB BK253.out) NB253_0.out (by simp));have n1_:=Am (Kd.R_mono (Kd.R_keep (IsS60.apart (show IsS60 w0 _ g s0_0 t265 from by repeat (first|(with_reducible first|exact HI0.out|apply IsS60.alloc|apply IsS60.drewN|apply IsS60.drew|apply IsS60.set_1|refine IsS60.far ?_ NB0_253.out _|refine IsS60.far ?_ NB0_263.out _)|exact HI0.out)) (bR HO259.out) (by decide)) hk (fun _ h=>h.2)) (fun _ h=>h.1));have n2_:=Am (KeepBut.blk hk (bB BK263.out) NB263_0.out (by simp));have n3_:=Am (Kd.R_mono (Kd.R_keep (IsS60.apart (show IsS60 w0 _ g s0_0 t265 from by repeat (first|(with_reducible first|exact HI0.out|apply IsS60.alloc|apply IsS60.drewN|apply IsS60.drew|apply IsS60.set_1|refine IsS60.far ?_ NB0_253.out _|refine IsS60.far ?_ NB0_263.out _)|exact HI0.out)) (bR HO276.out) (by decide)) hk (fun _ h=>h.2)) (fun _ h=>h.1));have n4_:=Am (KeepBut.trans (by repeat (first|(with_reducible first|exact HK.out|apply KeepBut.set_|apply kN|apply kD|apply kA|refine keep_far ?_ GW253.out _|refine keep_far ?_ GW263.out _)|exact HK.out)) hk (.inl rfl));have n5_:=Am (hb);have n6_:=Am (hi);clear BK253 HO259 BK263 HO276 HK HB HI0;have BK253:=n0_;have HO259:=n1_;have BK263:=n2_;have HO276:=n3_;have HK:=n4_;have HB:=n5_;have HI0:=n6_;clear n0_ n1_ n2_ n3_ n4_ n5_ n6_;(try clear hb hk hi);obtain ⟨hcz43_0,hcz43_1,hcz43_2,hcz43_3,hfz43_0,hfz43_1,hfz43_2,hfz43_3⟩:=bX BK263.out;have hnb44:=NB253_0.out;have hnc44:=NB0_253.out;obtain ⟨hcz45_0,hcz45_1,hcz45_2,hcz45_3,hfz45_0,hfz45_1,hfz45_2,hfz45_3⟩:=bX BK253.out))
   refine bodyPost_ret (results_cell_row rfl _ _ gb253 25 #[.string t277, .slice Ao37 t257.length co37, .bool t260, .string t261] (0,0) _ rfl (by refine bB ?_;apply bP;refine bB ?_;refine blk_far ?_ NB253_263.out _;refine bB ?_;exact BK253.out) Tryd.underlying25 rfl (by kernel_rfl)) rfl ?_
   exact ⟨_,by first|rfl|(simp <;> rfl)|(simp [*] <;> rfl),by (with_reducible repeat (first|apply rA|apply rN|apply rD));exact Kd.R_mono (Kd.R_far (p:=⟨gb253,3,none⟩) (Kd.R_far (p:=⟨gb253,2,none⟩) (Kd.R_far (p:=⟨gb253,1,none⟩) (Kd.R_far (p:=⟨gb253,0,none⟩) (Kd.R_far (p:=⟨gb263,0,none⟩) (Kd.R_types (Kd.R_types HO259.out BK263.out (by decide)) BK253.out (by decide)) (fun _ hk=>hk.1.2) (.string t277)) (fun _ hk=>hk.2) (.string t277)) (fun _ hk=>hk.2) (.slice Ao37 t257.length co37)) (fun _ hk=>hk.2) (.bool t260)) (fun _ hk=>hk.2) (.string t261)) (fun _ hk=>trivial),by repeat (first|(with_reducible first|exact HI0.out|apply IsS60.alloc|apply IsS60.drewN|apply IsS60.drew|apply IsS60.set_1|refine IsS60.far ?_ NB0_253.out _|refine IsS60.far ?_ NB0_263.out _)|exact HI0.out),by repeat (first|(with_reducible first|exact HB.out|apply bA|apply bN|apply bD|refine bS ?_ (IsS60.ge HI0.out)|refine bS ?_ GE253.out|refine bS ?_ GE263.out)|exact HB.out),by repeat (first|(with_reducible first|exact HK.out|apply KeepBut.set_|apply kN|apply kD|apply kA|refine keep_far ?_ GW253.out _|refine keep_far ?_ GW263.out _)|exact HK.out)⟩
  ·rw [if_neg c28] at H
   have c28b0:(t264 == 1) = false:=beq_eq_false_iff_ne.mpr c28
   have c28b1:(t264 != 1) = true:=bne_iff_ne.mpr c28
   by_cases c46:t264 = 2
   ·rw [if_pos c46] at H
    have c46b0:(t264 == 2) = true:=beq_iff_eq.mpr c46
    have c46b1:(t264 != 2) = false:=bne_eq_false_iff_eq.mpr c46
    clear c46
    simp only [Option.some.injEq,Prod.mk.injEq] at H
    obtain ⟨rfl,rfl,rfl,rfl,rfl⟩:=H
    go_enter Tryd.func30,Tryd.ntmps30
    go_wp2_with (first|((with_reducible refine gate_dst (N:=2) rfl ?_);refine box_event ?hg (N:=2) ?hd (cs:=#[.string (⟨#[]⟩:ByteArray), .slice none 0 0, .bool false, .string (⟨#[]⟩:ByteArray)]) (t:=25) ?hr ?_;(case hd=>rfl);(case hg=>rfl);(case hr=>(go_simp <;> rfl));intro gb253 hg w47 hbox hb;have n0_:=Am (IsS60.below (by repeat (first|(with_reducible first|exact HI0.out|apply IsS60.alloc|apply IsS60.drewN|apply IsS60.drew|apply IsS60.set_1)|exact HI0.out)) hb);have n1_:=Am (KeepBut.trans (by repeat (first|(with_reducible first|exact HK.out|apply KeepBut.set_|apply kN|apply kD|apply kA)|exact HK.out)) (KeepBut.of_below hb g none) (.inl rfl));have n2_:=Am (bT (by repeat (first|(with_reducible first|exact HB.out|apply bA|apply bN|apply bD|refine bS ?_ (IsS60.ge HI0.out))|exact HB.out)) hb);have n3_:=Am (hbox);have n4_:=Am ((by rw [hg];exact (keep_size (w:=w) (g:=g) (row:=none) (by repeat (first|(with_reducible first|exact HK.out|apply KeepBut.set_|apply kN|apply kD|apply kA)|exact HK.out))):w.heap.size ≤ gb253));have n5_:=Am ((Nat.le_trans HW0.out (by rw [hg];exact (keep_size (w:=w) (g:=g) (row:=none) (by repeat (first|(with_reducible first|exact HK.out|apply KeepBut.set_|apply kN|apply kD|apply kA)|exact HK.out))):w.heap.size ≤ gb253):w0.heap.size ≤ gb253));have n6_:=Am ((by rw [hg];exact Nat.ne_of_lt (IsS60.lt (show IsS60 w0 _ g s0_0 s0_1 from by repeat (first|(with_reducible first|exact HI0.out|apply IsS60.alloc|apply IsS60.drewN|apply IsS60.drew|apply IsS60.set_1)|exact HI0.out))):g ≠ gb253));have n7_:=Am ((by rw [hg];exact Nat.ne_of_gt (IsS60.lt (show IsS60 w0 _ g s0_0 s0_1 from by repeat (first|(with_reducible first|exact HI0.out|apply IsS60.alloc|apply IsS60.drewN|apply IsS60.drew|apply IsS60.set_1)|exact HI0.out))):gb253 ≠ g));clear HI0 HK HB;have HI0:=n0_;have HK:=n1_;have HB:=n2_;have BK253:=n3_;have GW253:=n4_;have GE253:=n5_;have NB0_253:=n6_;have NB253_0:=n7_;clear n0_ n1_ n2_ n3_ n4_ n5_ n6_ n7_ hb hbox hg)|((with_reducible refine gate_callee (f:=57) rfl ?_);refine goesL_ (some 7) rfl rfl Tryd.func57 (by kernel_rfl) rfl #[.pointer (some ⟨g,0,none⟩)] rfl (aE1 rfl) ?_;(with_reducible refine (spec_l71Addr.calls k g s0_0 s0_1 t254 t255 w0 _ ?side1 ?side2 A2.out).mono ?_);(case side1=>repeat (first|(with_reducible first|exact HI0.out|apply IsS60.alloc|apply IsS60.drewN|apply IsS60.drew|apply IsS60.set_1|refine IsS60.far ?_ NB0_253.out _)|exact HI0.out));(case side2=>repeat (first|(with_reducible first|exact HB.out|apply bA|apply bN|apply bD|refine bS ?_ (IsS60.ge HI0.out)|refine bS ?_ GE253.out)|exact HB.out));rintro e w48 ⟨rfl,hi,hb,hk⟩;refine ⟨_,rfl,?_⟩;have n0_:=Am (KeepBut.blk hk (bB BK253.out) NB253_0.out (by simp));have n1_:=Am (KeepBut.trans (by repeat (first|(with_reducible first|exact HK.out|apply KeepBut.set_|apply kN|apply kD|apply kA|refine keep_far ?_ GW253.out _)|exact HK.out)) hk (.inl rfl));have n2_:=Am (hb);have n3_:=Am (hi);clear BK253 HK HB HI0;have BK253:=n0_;have HK:=n1_;have HB:=n2_;have HI0:=n3_;clear n0_ n1_ n2_ n3_;(try clear hb hk hi))|((with_reducible refine gate_callee (f:=25) rfl ?_);refine goesL_ (some 8) rfl rfl Tryd.func25 (by kernel_rfl) rfl #[.string t254] rfl (aE1 rfl) ?_;(with_reducible refine (spec_AddrRead.calls k t254 t256 t257 t260 t261 t262 _ A3.out).mono ?_);rintro e w49 ⟨v258,rfl,ho0,hb⟩;refine ⟨_,rfl,?_⟩;have n0_:=Am (Kd.R_lower ho0 (keep_size (w:=w) (g:=g) (row:=none) (by repeat (first|(with_reducible first|exact HK.out|apply KeepBut.set_|apply kN|apply kD|apply kA|refine keep_far ?_ GW253.out _)|exact HK.out))));have n1_:=Am (IsS60.below (by repeat (first|(with_reducible first|exact HI0.out|apply IsS60.alloc|apply IsS60.drewN|apply IsS60.drew|apply IsS60.set_1|refine IsS60.far ?_ NB0_253.out _)|exact HI0.out)) hb);have n2_:=Am (blk_below (bB BK253.out) hb);have n3_:=Am (KeepBut.trans (by repeat (first|(with_reducible first|exact HK.out|apply KeepBut.set_|apply kN|apply kD|apply kA|refine keep_far ?_ GW253.out _)|exact HK.out)) (KeepBut.of_below hb g none) (.inl rfl));have n4_:=Am (bT (by repeat (first|(with_reducible first|exact HB.out|apply bA|apply bN|apply bD|refine bS ?_ (IsS60.ge HI0.out)|refine bS ?_ GE253.out)|exact HB.out)) hb);clear HI0 BK253 HK HB;have HO259:=n0_;have HI0:=n1_;have BK253:=n2_;have HK:=n3_;have HB:=n4_;clear n0_ n1_ n2_ n3_ n4_;(try clear hb);(try clear ho0))|((with_reducible refine gate_dst (N:=3) rfl ?_);refine box_event ?hg (N:=3) ?hd (cs:=#[.string (⟨#[]⟩:ByteArray), .slice none 0 0, .bool false, .string (⟨#[]⟩:ByteArray)]) (t:=25) ?hr ?_;(case hd=>rfl);(case hg=>rfl);(case hr=>(go_simp <;> rfl));intro gb263 hg w50 hbox hb;have n0_:=bH HO259 hb;have n1_:=Am (IsS60.below (by repeat (first|(with_reducible first|exact HI0.out|apply IsS60.alloc|apply IsS60.drewN|apply IsS60.drew|apply IsS60.set_1|refine IsS60.far ?_ NB0_253.out _)|exact HI0.out)) hb);have n2_:=Am (blk_below (bB BK253.out) hb);have n3_:=Am (KeepBut.trans (by repeat (first|(with_reducible first|exact HK.out|apply KeepBut.set_|apply kN|apply kD|apply kA|refine keep_far ?_ GW253.out _)|exact HK.out)) (KeepBut.of_below hb g none) (.inl rfl));have n4_:=Am (bT (by repeat (first|(with_reducible first|exact HB.out|apply bA|apply bN|apply bD|refine bS ?_ (IsS60.ge HI0.out)|refine bS ?_ GE253.out)|exact HB.out)) hb);have n5_:=Am (hbox);have n6_:=Am ((by rw [hg];exact (keep_size (w:=w) (g:=g) (row:=none) (by repeat (first|(with_reducible first|exact HK.out|apply KeepBut.set_|apply kN|apply kD|apply kA|refine keep_far ?_ GW253.out _)|exact HK.out))):w.heap.size ≤ gb263));have n7_:=Am ((Nat.le_trans HW0.out (by rw [hg];exact (keep_size (w:=w) (g:=g) (row:=none) (by repeat (first|(with_reducible first|exact HK.out|apply KeepBut.set_|apply kN|apply kD|apply kA|refine keep_far ?_ GW253.out _)|exact HK.out))):w.heap.size ≤ gb263):w0.heap.size ≤ gb263));have n8_:=Am ((by rw [hg];exact Nat.ne_of_lt (blk_lt (bB BK253.out)):gb253 ≠ gb263));have n9_:=Am ((by rw [hg];exact Nat.ne_of_gt (blk_lt (bB BK253.out)):gb263 ≠ gb253));have n10_:=Am ((by rw [hg];exact Nat.ne_of_lt (IsS60.lt (show IsS60 w0 _ g s0_0 t255 from by repeat (first|(with_reducible first|exact HI0.out|apply IsS60.alloc|apply IsS60.drewN|apply IsS60.drew|apply IsS60.set_1|refine IsS60.far ?_ NB0_253.out _)|exact HI0.out))):g ≠ gb263));have n11_:=Am ((by rw [hg];exact Nat.ne_of_gt (IsS60.lt (show IsS60 w0 _ g s0_0 t255 from by repeat (first|(with_reducible first|exact HI0.out|apply IsS60.alloc|apply IsS60.drewN|apply IsS60.drew|apply IsS60.set_1|refine IsS60.far ?_ NB0_253.out _)|exact HI0.out))):gb263 ≠ g));clear HO259 HI0 BK253 HK HB;have HO259:=n0_;have HI0:=n1_;have BK253:=n2_;have HK:=n3_;have HB:=n4_;have BK263:=n5_;have GW263:=n6_;have GE263:=n7_;have NB253_263:=n8_;have NB263_253:=n9_;have NB0_263:=n10_;have NB263_0:=n11_;clear n0_ n1_ n2_ n3_ n4_ n5_ n6_ n7_ n8_ n9_ n10_ n11_ hb hbox hg;have hnb51:=NB263_253.out;have hnc51:=NB253_263.out;have hnb52:=NB263_0.out;have hnc52:=NB0_263.out;obtain ⟨hcz53_0,hcz53_1,hcz53_2,hcz53_3,hfz53_0,hfz53_1,hfz53_2,hfz53_3⟩:=bX BK263.out;obtain ⟨Ao54,co54,eo54⟩:=Kd.R_slice HO259.out;subst eo54)|((with_reducible refine gate_callee (f:=52) rfl ?_);refine goesL_ (some 12) rfl rfl Tryd.func52 (by kernel_rfl) rfl #[.pointer (some ⟨g,0,none⟩), .int .i64 12] rfl (aE2 rfl rfl) ?_;(with_reducible refine (spec_l6Rd_pick.calls k g s0_0 t255 12 t264 t265 w0 _ ?side1 ?side2 A4.out).mono ?_);(case side1=>repeat (first|(with_reducible first|exact HI0.out|apply IsS60.alloc|apply IsS60.drewN|apply IsS60.drew|apply IsS60.set_1|refine IsS60.far ?_ NB0_253.out _|refine IsS60.far ?_ NB0_263.out _)|exact HI0.out));(case side2=>repeat (first|(with_reducible first|exact HB.out|apply bA|apply bN|apply bD|refine bS ?_ (IsS60.ge HI0.out)|refine bS ?_ GE253.out|refine bS ?_ GE263.out)|exact HB.out));rintro e w55 ⟨rfl,hi,hb,hk⟩;refine ⟨_,rfl,?_⟩;have n0_:=Am (KeepBut.blk hk (g':=gb253) (o:=.cells #[.string (⟨#[]⟩:ByteArray), .slice none 0 0, .bool false, .string (⟨#[]⟩:ByteArray)] 25 (0,0)) (by refine bB ?_;refine bF ?_ NB253_263.out;refine bB ?_;exact BK253.out) NB253_0.out (by simp));have n1_:=Am (Kd.R_mono (Kd.R_keep (IsS60.apart (show IsS60 w0 _ g s0_0 t255 from by repeat (first|(with_reducible first|exact HI0.out|apply IsS60.alloc|apply IsS60.drewN|apply IsS60.drew|apply IsS60.set_1|refine IsS60.far ?_ NB0_253.out _|refine IsS60.far ?_ NB0_263.out _)|exact HI0.out)) (by (with_reducible repeat (first|apply rA|apply rN|apply rD));exact (bQ HO259.out BK263.out (by decide) _ _ _ _)) (by decide)) hk (fun _ h=>h.2)) (fun _ h=>h.1));have n2_:=Am (KeepBut.blk hk (g':=gb263) (o:=.cells #[.string t256, .slice Ao54 t257.length co54, .bool t260, .string t261] 25 (0,0)) (by refine bB ?_;apply bP;refine bB ?_;exact BK263.out) NB263_0.out (by simp));have n3_:=Am (KeepBut.trans (by repeat (first|(with_reducible first|exact HK.out|apply KeepBut.set_|apply kN|apply kD|apply kA|refine keep_far ?_ GW253.out _|refine keep_far ?_ GW263.out _)|exact HK.out)) hk (.inl rfl));have n4_:=Am (hb);have n5_:=Am (hi);clear BK253 HO259 BK263 HK HB HI0;have BK253:=n0_;have HO259:=n1_;have BK263:=n2_;have HK:=n3_;have HB:=n4_;have HI0:=n5_;clear n0_ n1_ n2_ n3_ n4_ n5_;(try clear hb hk hi);obtain ⟨hcz56_0,hcz56_1,hcz56_2,hcz56_3,hfz56_0,hfz56_1,hfz56_2,hfz56_3⟩:=bX BK263.out;have hnb57:=NB253_0.out;have hnc57:=NB0_253.out;obtain ⟨hcz58_0,hcz58_1,hcz58_2,hcz58_3,hfz58_0,hfz58_1,hfz58_2,hfz58_3⟩:=bX BK253.out))
    refine bodyPost_ret (results_cell_row rfl _ _ gb253 25 #[.string t256, .slice Ao54 t257.length co54, .bool t260, .string (⟨#[120]⟩:ByteArray)] (0,0) _ rfl (by refine bB ?_;apply bP;refine bB ?_;refine blk_far ?_ NB253_263.out _;refine bB ?_;exact BK253.out) Tryd.underlying25 rfl (by kernel_rfl)) rfl ?_
    exact ⟨_,by first|rfl|(simp <;> rfl)|(simp [*] <;> rfl),by (with_reducible repeat (first|apply rA|apply rN|apply rD));exact Kd.R_mono (Kd.R_far (p:=⟨gb253,3,none⟩) (Kd.R_far (p:=⟨gb253,2,none⟩) (Kd.R_far (p:=⟨gb253,1,none⟩) (Kd.R_far (p:=⟨gb253,0,none⟩) (Kd.R_far (p:=⟨gb263,3,none⟩) (Kd.R_types (Kd.R_types HO259.out BK263.out (by decide)) BK253.out (by decide)) (fun _ hk=>hk.1.2) (.string (⟨#[120]⟩:ByteArray))) (fun _ hk=>hk.2) (.string t256)) (fun _ hk=>hk.2) (.slice Ao54 t257.length co54)) (fun _ hk=>hk.2) (.bool t260)) (fun _ hk=>hk.2) (.string (⟨#[120]⟩:ByteArray))) (fun _ hk=>trivial),by repeat (first|(with_reducible first|exact HI0.out|apply IsS60.alloc|apply IsS60.drewN|apply IsS60.drew|apply IsS60.set_1|refine IsS60.far ?_ NB0_253.out _|refine IsS60.far ?_ NB0_263.out _)|exact HI0.out),by repeat (first|(with_reducible first|exact HB.out|apply bA|apply bN|apply bD|refine bS ?_ (IsS60.ge HI0.out)|refine bS ?_ GE253.out|refine bS ?_ GE263.out)|exact HB.out),by repeat (first|(with_reducible first|exact HK.out|apply KeepBut.set_|apply kN|apply kD|apply kA|refine keep_far ?_ GW253.out _|refine keep_far ?_ GW263.out _)|exact HK.out)⟩
   ·rw [if_neg c46] at H
    have c46b0:(t264 == 2) = false:=beq_eq_false_iff_ne.mpr c46
    have c46b1:(t264 != 2) = true:=bne_iff_ne.mpr c46
    by_cases c59:t264 = 3
    ·rw [if_pos c59] at H
     have c59b0:(t264 == 3) = true:=beq_iff_eq.mpr c59
     have c59b1:(t264 != 3) = false:=bne_eq_false_iff_eq.mpr c59
     clear c59
     obtain ⟨y279,hy279⟩:∃ y_:List ByteArray,y_ = (([(⟨#[97]⟩:ByteArray),(⟨#[98]⟩:ByteArray),(⟨#[99]⟩:ByteArray),(⟨#[97]⟩:ByteArray),(⟨#[98]⟩:ByteArray)]:List ByteArray)):=⟨_,rfl⟩
     replace H:(if t257.length + y279.length < 8796093022208 then (some (t256,(t257 ++ y279),t260,t261,t265)) else (none)) = some (r1,r2,r3,r4,r5):=by first|(rw [hy279];with_reducible exact H)|(have H2_:=(Option.bind_some _ _).symm.trans H;rw [hy279];with_reducible exact H2_)|(have H2_:=(Option.bind_some _ _).symm.trans H;with_reducible exact H2_)|with_reducible exact H|(rw [hy279];exact H)|exact H
     have Ny279:=Am hy279
     clear hy279
     by_cases c60:t257.length + y279.length < 8796093022208
     ·rw [if_pos c60] at H
      have LMc60:=Am c60
      clear c60
      obtain ⟨y282,hy282⟩:∃ y_:List ByteArray,y_ = (t257 ++ y279):=⟨_,rfl⟩
      replace H:(some (t256,y282,t260,t261,t265)) = some (r1,r2,r3,r4,r5):=by first|(rw [hy282];with_reducible exact H)|(have H2_:=(Option.bind_some _ _).symm.trans H;rw [hy282];with_reducible exact H2_)|(have H2_:=(Option.bind_some _ _).symm.trans H;with_reducible exact H2_)|with_reducible exact H|(rw [hy282];exact H)|exact H
      have Ny282:=Am hy282
      clear hy282
      simp only [Option.some.injEq,Prod.mk.injEq] at H
      obtain ⟨rfl,rfl,rfl,rfl,rfl⟩:=H
      go_enter Tryd.func30,Tryd.ntmps30
      go_wp2_with (first|((with_reducible refine gate_dst (N:=2) rfl ?_);refine box_event ?hg (N:=2) ?hd (cs:=#[.string (⟨#[]⟩:ByteArray), .slice none 0 0, .bool false, .string (⟨#[]⟩:ByteArray)]) (t:=25) ?hr ?_;(case hd=>rfl);(case hg=>rfl);(case hr=>(go_simp <;> rfl));intro gb253 hg w61 hbox hb;have n0_:=Am (IsS60.below (by repeat (first|(with_reducible first|exact HI0.out|apply IsS60.alloc|apply IsS60.drewN|apply IsS60.drew|apply IsS60.set_1)|exact HI0.out)) hb);have n1_:=Am (KeepBut.trans (by repeat (first|(with_reducible first|exact HK.out|apply KeepBut.set_|apply kN|apply kD|apply kA)|exact HK.out)) (KeepBut.of_below hb g none) (.inl rfl));have n2_:=Am (bT (by repeat (first|(with_reducible first|exact HB.out|apply bA|apply bN|apply bD|refine bS ?_ (IsS60.ge HI0.out))|exact HB.out)) hb);have n3_:=Am (hbox);have n4_:=Am ((by rw [hg];exact (keep_size (w:=w) (g:=g) (row:=none) (by repeat (first|(with_reducible first|exact HK.out|apply KeepBut.set_|apply kN|apply kD|apply kA)|exact HK.out))):w.heap.size ≤ gb253));have n5_:=Am ((Nat.le_trans HW0.out (by rw [hg];exact (keep_size (w:=w) (g:=g) (row:=none) (by repeat (first|(with_reducible first|exact HK.out|apply KeepBut.set_|apply kN|apply kD|apply kA)|exact HK.out))):w.heap.size ≤ gb253):w0.heap.size ≤ gb253));have n6_:=Am ((by rw [hg];exact Nat.ne_of_lt (IsS60.lt (show IsS60 w0 _ g s0_0 s0_1 from by repeat (first|(with_reducible first|exact HI0.out|apply IsS60.alloc|apply IsS60.drewN|apply IsS60.drew|apply IsS60.set_1)|exact HI0.out))):g ≠ gb253));have n7_:=Am ((by rw [hg];exact Nat.ne_of_gt (IsS60.lt (show IsS60 w0 _ g s0_0 s0_1 from by repeat (first|(with_reducible first|exact HI0.out|apply IsS60.alloc|apply IsS60.drewN|apply IsS60.drew|apply IsS60.set_1)|exact HI0.out))):gb253 ≠ g));clear HI0 HK HB;have HI0:=n0_;have HK:=n1_;have HB:=n2_;have BK253:=n3_;have GW253:=n4_;have GE253:=n5_;have NB0_253:=n6_;have NB253_0:=n7_;clear n0_ n1_ n2_ n3_ n4_ n5_ n6_ n7_ hb hbox hg)|((with_reducible refine gate_callee (f:=57) rfl ?_);refine goesL_ (some 7) rfl rfl Tryd.func57 (by kernel_rfl) rfl #[.pointer (some ⟨g,0,none⟩)] rfl (aE1 rfl) ?_;(with_reducible refine (spec_l71Addr.calls k g s0_0 s0_1 t254 t255 w0 _ ?side1 ?side2 A2.out).mono ?_);(case side1=>repeat (first|(with_reducible first|exact HI0.out|apply IsS60.alloc|apply IsS60.drewN|apply IsS60.drew|apply IsS60.set_1|refine IsS60.far ?_ NB0_253.out _)|exact HI0.out));(case side2=>repeat (first|(with_reducible first|exact HB.out|apply bA|apply bN|apply bD|refine bS ?_ (IsS60.ge HI0.out)|refine bS ?_ GE253.out)|exact HB.out));rintro e w62 ⟨rfl,hi,hb,hk⟩;refine ⟨_,rfl,?_⟩;have n0_:=Am (KeepBut.blk hk (bB BK253.out) NB253_0.out (by simp));have n1_:=Am (KeepBut.trans (by repeat (first|(with_reducible first|exact HK.out|apply KeepBut.set_|apply kN|apply kD|apply kA|refine keep_far ?_ GW253.out _)|exact HK.out)) hk (.inl rfl));have n2_:=Am (hb);have n3_:=Am (hi);clear BK253 HK HB HI0;have BK253:=n0_;have HK:=n1_;have HB:=n2_;have HI0:=n3_;clear n0_ n1_ n2_ n3_;(try clear hb hk hi))|((with_reducible refine gate_callee (f:=25) rfl ?_);refine goesL_ (some 8) rfl rfl Tryd.func25 (by kernel_rfl) rfl #[.string t254] rfl (aE1 rfl) ?_;(with_reducible refine (spec_AddrRead.calls k t254 t256 t257 t260 t261 t262 _ A3.out).mono ?_);rintro e w63 ⟨v258,rfl,ho0,hb⟩;refine ⟨_,rfl,?_⟩;have n0_:=Am (Kd.R_lower ho0 (keep_size (w:=w) (g:=g) (row:=none) (by repeat (first|(with_reducible first|exact HK.out|apply KeepBut.set_|apply kN|apply kD|apply kA|refine keep_far ?_ GW253.out _)|exact HK.out))));have n1_:=Am (IsS60.below (by repeat (first|(with_reducible first|exact HI0.out|apply IsS60.alloc|apply IsS60.drewN|apply IsS60.drew|apply IsS60.set_1|refine IsS60.far ?_ NB0_253.out _)|exact HI0.out)) hb);have n2_:=Am (blk_below (bB BK253.out) hb);have n3_:=Am (KeepBut.trans (by repeat (first|(with_reducible first|exact HK.out|apply KeepBut.set_|apply kN|apply kD|apply kA|refine keep_far ?_ GW253.out _)|exact HK.out)) (KeepBut.of_below hb g none) (.inl rfl));have n4_:=Am (bT (by repeat (first|(with_reducible first|exact HB.out|apply bA|apply bN|apply bD|refine bS ?_ (IsS60.ge HI0.out)|refine bS ?_ GE253.out)|exact HB.out)) hb);clear HI0 BK253 HK HB;have HO259:=n0_;have HI0:=n1_;have BK253:=n2_;have HK:=n3_;have HB:=n4_;clear n0_ n1_ n2_ n3_ n4_;(try clear hb);(try clear ho0))|((with_reducible refine gate_dst (N:=3) rfl ?_);refine box_event ?hg (N:=3) ?hd (cs:=#[.string (⟨#[]⟩:ByteArray), .slice none 0 0, .bool false, .string (⟨#[]⟩:ByteArray)]) (t:=25) ?hr ?_;(case hd=>rfl);(case hg=>rfl);(case hr=>(go_simp <;> rfl));intro gb263 hg w64 hbox hb;have n0_:=bH HO259 hb;have n1_:=Am (IsS60.below (by repeat (first|(with_reducible first|exact HI0.out|apply IsS60.alloc|apply IsS60.drewN|apply IsS60.drew|apply IsS60.set_1|refine IsS60.far ?_ NB0_253.out _)|exact HI0.out)) hb);have n2_:=Am (blk_below (bB BK253.out) hb);have n3_:=Am (KeepBut.trans (by repeat (first|(with_reducible first|exact HK.out|apply KeepBut.set_|apply kN|apply kD|apply kA|refine keep_far ?_ GW253.out _)|exact HK.out)) (KeepBut.of_below hb g none) (.inl rfl));have n4_:=Am (bT (by repeat (first|(with_reducible first|exact HB.out|apply bA|apply bN|apply bD|refine bS ?_ (IsS60.ge HI0.out)|refine bS ?_ GE253.out)|exact HB.out)) hb);have n5_:=Am (hbox);have n6_:=Am ((by rw [hg];exact (keep_size (w:=w) (g:=g) (row:=none) (by repeat (first|(with_reducible first|exact HK.out|apply KeepBut.set_|apply kN|apply kD|apply kA|refine keep_far ?_ GW253.out _)|exact HK.out))):w.heap.size ≤ gb263));have n7_:=Am ((Nat.le_trans HW0.out (by rw [hg];exact (keep_size (w:=w) (g:=g) (row:=none) (by repeat (first|(with_reducible first|exact HK.out|apply KeepBut.set_|apply kN|apply kD|apply kA|refine keep_far ?_ GW253.out _)|exact HK.out))):w.heap.size ≤ gb263):w0.heap.size ≤ gb263));have n8_:=Am ((by rw [hg];exact Nat.ne_of_lt (blk_lt (bB BK253.out)):gb253 ≠ gb263));have n9_:=Am ((by rw [hg];exact Nat.ne_of_gt (blk_lt (bB BK253.out)):gb263 ≠ gb253));have n10_:=Am ((by rw [hg];exact Nat.ne_of_lt (IsS60.lt (show IsS60 w0 _ g s0_0 t255 from by repeat (first|(with_reducible first|exact HI0.out|apply IsS60.alloc|apply IsS60.drewN|apply IsS60.drew|apply IsS60.set_1|refine IsS60.far ?_ NB0_253.out _)|exact HI0.out))):g ≠ gb263));have n11_:=Am ((by rw [hg];exact Nat.ne_of_gt (IsS60.lt (show IsS60 w0 _ g s0_0 t255 from by repeat (first|(with_reducible first|exact HI0.out|apply IsS60.alloc|apply IsS60.drewN|apply IsS60.drew|apply IsS60.set_1|refine IsS60.far ?_ NB0_253.out _)|exact HI0.out))):gb263 ≠ g));clear HO259 HI0 BK253 HK HB;have HO259:=n0_;have HI0:=n1_;have BK253:=n2_;have HK:=n3_;have HB:=n4_;have BK263:=n5_;have GW263:=n6_;have GE263:=n7_;have NB253_263:=n8_;have NB263_253:=n9_;have NB0_263:=n10_;have NB263_0:=n11_;clear n0_ n1_ n2_ n3_ n4_ n5_ n6_ n7_ n8_ n9_ n10_ n11_ hb hbox hg;have hnb65:=NB263_253.out;have hnc65:=NB253_263.out;have hnb66:=NB263_0.out;have hnc66:=NB0_263.out;obtain ⟨hcz67_0,hcz67_1,hcz67_2,hcz67_3,hfz67_0,hfz67_1,hfz67_2,hfz67_3⟩:=bX BK263.out;obtain ⟨Ao68,co68,eo68⟩:=Kd.R_slice HO259.out;subst eo68)|((with_reducible refine gate_callee (f:=52) rfl ?_);refine goesL_ (some 12) rfl rfl Tryd.func52 (by kernel_rfl) rfl #[.pointer (some ⟨g,0,none⟩), .int .i64 12] rfl (aE2 rfl rfl) ?_;(with_reducible refine (spec_l6Rd_pick.calls k g s0_0 t255 12 t264 t265 w0 _ ?side1 ?side2 A4.out).mono ?_);(case side1=>repeat (first|(with_reducible first|exact HI0.out|apply IsS60.alloc|apply IsS60.drewN|apply IsS60.drew|apply IsS60.set_1|refine IsS60.far ?_ NB0_253.out _|refine IsS60.far ?_ NB0_263.out _)|exact HI0.out));(case side2=>repeat (first|(with_reducible first|exact HB.out|apply bA|apply bN|apply bD|refine bS ?_ (IsS60.ge HI0.out)|refine bS ?_ GE253.out|refine bS ?_ GE263.out)|exact HB.out));rintro e w69 ⟨rfl,hi,hb,hk⟩;refine ⟨_,rfl,?_⟩;have n0_:=Am (KeepBut.blk hk (g':=gb253) (o:=.cells #[.string (⟨#[]⟩:ByteArray), .slice none 0 0, .bool false, .string (⟨#[]⟩:ByteArray)] 25 (0,0)) (by refine bB ?_;refine bF ?_ NB253_263.out;refine bB ?_;exact BK253.out) NB253_0.out (by simp));have n1_:=Am (Kd.R_mono (Kd.R_keep (IsS60.apart (show IsS60 w0 _ g s0_0 t255 from by repeat (first|(with_reducible first|exact HI0.out|apply IsS60.alloc|apply IsS60.drewN|apply IsS60.drew|apply IsS60.set_1|refine IsS60.far ?_ NB0_253.out _|refine IsS60.far ?_ NB0_263.out _)|exact HI0.out)) (by (with_reducible repeat (first|apply rA|apply rN|apply rD));exact (bQ HO259.out BK263.out (by decide) _ _ _ _)) (by decide)) hk (fun _ h=>h.2)) (fun _ h=>h.1));have n2_:=Am (KeepBut.blk hk (g':=gb263) (o:=.cells #[.string t256, .slice Ao68 t257.length co68, .bool t260, .string t261] 25 (0,0)) (by refine bB ?_;apply bP;refine bB ?_;exact BK263.out) NB263_0.out (by simp));have n3_:=Am (KeepBut.trans (by repeat (first|(with_reducible first|exact HK.out|apply KeepBut.set_|apply kN|apply kD|apply kA|refine keep_far ?_ GW253.out _|refine keep_far ?_ GW263.out _)|exact HK.out)) hk (.inl rfl));have n4_:=Am (hb);have n5_:=Am (hi);clear BK253 HO259 BK263 HK HB HI0;have BK253:=n0_;have HO259:=n1_;have BK263:=n2_;have HK:=n3_;have HB:=n4_;have HI0:=n5_;clear n0_ n1_ n2_ n3_ n4_ n5_;(try clear hb hk hi);obtain ⟨hcz70_0,hcz70_1,hcz70_2,hcz70_3,hfz70_0,hfz70_1,hfz70_2,hfz70_3⟩:=bX BK263.out)|((with_reducible refine gate_dst (N:=36) rfl ?_);refine Kd.R_lit Kd.string _ 9 ?hg (N:=36) ?hd (xs:=([(⟨#[97]⟩:ByteArray),(⟨#[98]⟩:ByteArray),(⟨#[99]⟩:ByteArray),(⟨#[97]⟩:ByteArray),(⟨#[98]⟩:ByteArray)]:List ByteArray)) (inner:=[.string (⟨#[97]⟩:ByteArray), .string (⟨#[98]⟩:ByteArray), .string (⟨#[99]⟩:ByteArray), .string (⟨#[97]⟩:ByteArray), .string (⟨#[98]⟩:ByteArray)]) (ok:=fun _=>True) (okp:=fun _=>True) ?hr ?hp (fun _ hk=>hk) trivial (Below.refl _ _) (Nat.le_refl _) (by simp) ?_;(case hd=>rfl);(case hg=>rfl);(case hr=>(go_simp <;> rfl));(case hp=>exact (Reps.one (show Kd.M Kd.string _ _ _ (⟨#[97]⟩:ByteArray) [.string (⟨#[97]⟩:ByteArray)] from rfl) (Reps.one (show Kd.M Kd.string _ _ _ (⟨#[98]⟩:ByteArray) [.string (⟨#[98]⟩:ByteArray)] from rfl) (Reps.one (show Kd.M Kd.string _ _ _ (⟨#[99]⟩:ByteArray) [.string (⟨#[99]⟩:ByteArray)] from rfl) (Reps.one (show Kd.M Kd.string _ _ _ (⟨#[97]⟩:ByteArray) [.string (⟨#[97]⟩:ByteArray)] from rfl) (Reps.one (show Kd.M Kd.string _ _ _ (⟨#[98]⟩:ByteArray) [.string (⟨#[98]⟩:ByteArray)] from rfl) (Reps.none _ _)))))));intro v280 w71 ho72 hb hg_ hnew_;clear hg_ hnew_;(first|rw [← Ny279.out] at ho72|(simp only [Int.reduceToNat] at ho72;rw [← Ny279.out] at ho72));have n0_:=Am (Kd.R_elder' (bR HO259.out) (Kd.R_base ho72) hb);have n1_:=Am (Kd.R_lower (Kd.R_new' ho72 (Kd.R_lt (bR HO259.out))) (keep_size (w:=w) (g:=g) (row:=none) (by repeat (first|(with_reducible first|exact HK.out|apply KeepBut.set_|apply kN|apply kD|apply kA|refine keep_far ?_ GW253.out _|refine keep_far ?_ GW263.out _)|exact HK.out))));have n2_:=Am (IsS60.below (by repeat (first|(with_reducible first|exact HI0.out|apply IsS60.alloc|apply IsS60.drewN|apply IsS60.drew|apply IsS60.set_1|refine IsS60.far ?_ NB0_253.out _|refine IsS60.far ?_ NB0_263.out _)|exact HI0.out)) hb);have n3_:=Am (blk_below (bB BK253.out) hb);have n4_:=Am (blk_below (bB BK263.out) hb);have n5_:=Am (KeepBut.trans (by repeat (first|(with_reducible first|exact HK.out|apply KeepBut.set_|apply kN|apply kD|apply kA|refine keep_far ?_ GW253.out _|refine keep_far ?_ GW263.out _)|exact HK.out)) (KeepBut.of_below hb g none) (.inl rfl));have n6_:=Am (bT (by repeat (first|(with_reducible first|exact HB.out|apply bA|apply bN|apply bD|refine bS ?_ (IsS60.ge HI0.out)|refine bS ?_ GE253.out|refine bS ?_ GE263.out)|exact HB.out)) hb);clear HO259 HI0 BK253 BK263 HK HB;have HO259:=n0_;have HO281:=n1_;have HI0:=n2_;have BK253:=n3_;have BK263:=n4_;have HK:=n5_;have HB:=n6_;clear n0_ n1_ n2_ n3_ n4_ n5_ n6_ hb ho72;obtain ⟨Ao74,co74,eo74⟩:=Kd.R_slice HO281.out;subst eo74)|((with_reducible refine gate_builtin (b:=.append) (xs:=#[.tmp 35, .tmp 36]) rfl ?_);at_builtin;refine Kd.R_append_rows Kd.string w.heap.size rfl (.tmp 35) (.tmp 36) 23 9 (.string ⟨#[]⟩) 16 rfl Tryd.underlying23 info9 rfl (by decide) (by omega) (.slice Ao68 t257.length co68) t257 y279 _ _ _ (fun k_=>some k_ ≠ (.slice Ao74 y279.length co74:Value).ownBlock) (fun _=>False) rfl rfl ?aO ?aR (fun _ _ h=>h) (fun _ h=>h.elim) ?aF (Below.refl _ _) ?aS ?aL ?_;(case aR=>repeat (first|exact (Kd.R_reads' HO281.out).2.2|(with_reducible refine bC ?_)));(case aF=>exact (fun k_ hk=>Kd.fresh' (Kd.R_lt (bR HO281.out)) k_ hk));(case aO=>exact (by (with_reducible repeat (first|apply rA|apply rN|apply rD));exact Kd.R_mono HO259.out (fun _ hk=>hk.2)));(case aS=>exact (keep_size (w:=w) (g:=g) (row:=none) (by repeat (first|(with_reducible first|exact HK.out|apply KeepBut.set_|apply kN|apply kD|apply kA|refine keep_far ?_ GW253.out _|refine keep_far ?_ GW263.out _)|exact HK.out))));(case aL=>have:=LMc60.out;omega);intro v283 w73 ho hb hg hat;rw [← Ny282.out] at ho;have n0_:=Am (IsS60.grown (by repeat (first|(with_reducible first|exact HI0.out|apply IsS60.alloc|apply IsS60.drewN|apply IsS60.drew|apply IsS60.set_1|refine IsS60.far ?_ NB0_253.out _|refine IsS60.far ?_ NB0_263.out _)|exact HI0.out)) hg (IsS60.own_ne HI0.out HO259.out (by decide)));have n1_:=Am (blk_grown (bB BK253.out) hg (Kd.R_ne HO259.out BK253.out (by decide)));have n2_:=Am (blk_grown (bB BK263.out) hg (Kd.R_ne HO259.out BK263.out (by decide)));have n3_:=Am (Kd.R_after (ok:=(fun _=>True)) (bR HO281.out) hg hat);have n4_:=Am (below_weaken (by repeat (first|(with_reducible first|exact HB.out|apply bA|apply bN|apply bD|refine bS ?_ (IsS60.ge HI0.out)|refine bS ?_ GE253.out|refine bS ?_ GE263.out)|exact HB.out)) HL.out hb);have n5_:=Am (KeepBut.trans (by repeat (first|(with_reducible first|exact HK.out|apply KeepBut.set_|apply kN|apply kD|apply kA|refine keep_far ?_ GW253.out _|refine keep_far ?_ GW263.out _)|exact HK.out)) (KeepBut.of_grown hg g) (Kd.R_base2 HO259.out));have n6_:=Am (ho);clear HI0 BK253 BK263 HO281 HB HK HO259;have HI0:=n0_;have BK253:=n1_;have BK263:=n2_;have HO281:=n3_;have HB:=n4_;have HK:=n5_;have HO284:=n6_;clear n0_ n1_ n2_ n3_ n4_ n5_ n6_ ho hb hg hat;obtain ⟨Ao75,co75,eo75⟩:=Kd.R_slice HO284.out;subst eo75;obtain ⟨hcz76_0,hcz76_1,hcz76_2,hcz76_3,hfz76_0,hfz76_1,hfz76_2,hfz76_3⟩:=bX BK263.out;have hnb77:=NB253_0.out;have hnc77:=NB0_253.out;obtain ⟨hcz78_0,hcz78_1,hcz78_2,hcz78_3,hfz78_0,hfz78_1,hfz78_2,hfz78_3⟩:=bX BK253.out))
      refine bodyPost_ret (results_cell_row rfl _ _ gb253 25 #[.string t256, .slice Ao75 y282.length co75, .bool t260, .string t261] (0,0) _ rfl (by refine bB ?_;apply bP;refine bB ?_;refine blk_far ?_ NB253_263.out _;refine bB ?_;exact BK253.out) Tryd.underlying25 rfl (by kernel_rfl)) rfl ?_
      exact ⟨_,by first|rfl|(simp <;> rfl)|(simp [*] <;> rfl),by (with_reducible repeat (first|apply rA|apply rN|apply rD));exact Kd.R_mono (Kd.R_far (p:=⟨gb253,3,none⟩) (Kd.R_far (p:=⟨gb253,2,none⟩) (Kd.R_far (p:=⟨gb253,1,none⟩) (Kd.R_far (p:=⟨gb253,0,none⟩) (Kd.R_far (p:=⟨gb263,1,none⟩) (Kd.R_types (Kd.R_types HO284.out BK263.out (by decide)) BK253.out (by decide)) (fun _ hk=>hk.1.2) (.slice Ao75 y282.length co75)) (fun _ hk=>hk.2) (.string t256)) (fun _ hk=>hk.2) (.slice Ao75 y282.length co75)) (fun _ hk=>hk.2) (.bool t260)) (fun _ hk=>hk.2) (.string t261)) (fun _ hk=>trivial),by repeat (first|(with_reducible first|exact HI0.out|apply IsS60.alloc|apply IsS60.drewN|apply IsS60.drew|apply IsS60.set_1|refine IsS60.far ?_ NB0_253.out _|refine IsS60.far ?_ NB0_263.out _)|exact HI0.out),by repeat (first|(with_reducible first|exact HB.out|apply bA|apply bN|apply bD|refine bS ?_ (IsS60.ge HI0.out)|refine bS ?_ GE253.out|refine bS ?_ GE263.out)|exact HB.out),by repeat (first|(with_reducible first|exact HK.out|apply KeepBut.set_|apply kN|apply kD|apply kA|refine keep_far ?_ GW253.out _|refine keep_far ?_ GW263.out _)|exact HK.out)⟩
     ·rw [if_neg c60] at H
      exact absurd H (by simp)
    ·rw [if_neg c59] at H
     have c59b0:(t264 == 3) = false:=beq_eq_false_iff_ne.mpr c59
     have c59b1:(t264 != 3) = true:=bne_iff_ne.mpr c59
     simp only [Option.some.injEq,Prod.mk.injEq] at H
     obtain ⟨rfl,rfl,rfl,rfl,rfl⟩:=H
     go_enter Tryd.func30,Tryd.ntmps30
     go_wp2_with (first|((with_reducible refine gate_dst (N:=2) rfl ?_);refine box_event ?hg (N:=2) ?hd (cs:=#[.string (⟨#[]⟩:ByteArray), .slice none 0 0, .bool false, .string (⟨#[]⟩:ByteArray)]) (t:=25) ?hr ?_;(case hd=>rfl);(case hg=>rfl);(case hr=>(go_simp <;> rfl));intro gb253 hg w79 hbox hb;have n0_:=Am (IsS60.below (by repeat (first|(with_reducible first|exact HI0.out|apply IsS60.alloc|apply IsS60.drewN|apply IsS60.drew|apply IsS60.set_1)|exact HI0.out)) hb);have n1_:=Am (KeepBut.trans (by repeat (first|(with_reducible first|exact HK.out|apply KeepBut.set_|apply kN|apply kD|apply kA)|exact HK.out)) (KeepBut.of_below hb g none) (.inl rfl));have n2_:=Am (bT (by repeat (first|(with_reducible first|exact HB.out|apply bA|apply bN|apply bD|refine bS ?_ (IsS60.ge HI0.out))|exact HB.out)) hb);have n3_:=Am (hbox);have n4_:=Am ((by rw [hg];exact (keep_size (w:=w) (g:=g) (row:=none) (by repeat (first|(with_reducible first|exact HK.out|apply KeepBut.set_|apply kN|apply kD|apply kA)|exact HK.out))):w.heap.size ≤ gb253));have n5_:=Am ((Nat.le_trans HW0.out (by rw [hg];exact (keep_size (w:=w) (g:=g) (row:=none) (by repeat (first|(with_reducible first|exact HK.out|apply KeepBut.set_|apply kN|apply kD|apply kA)|exact HK.out))):w.heap.size ≤ gb253):w0.heap.size ≤ gb253));have n6_:=Am ((by rw [hg];exact Nat.ne_of_lt (IsS60.lt (show IsS60 w0 _ g s0_0 s0_1 from by repeat (first|(with_reducible first|exact HI0.out|apply IsS60.alloc|apply IsS60.drewN|apply IsS60.drew|apply IsS60.set_1)|exact HI0.out))):g ≠ gb253));have n7_:=Am ((by rw [hg];exact Nat.ne_of_gt (IsS60.lt (show IsS60 w0 _ g s0_0 s0_1 from by repeat (first|(with_reducible first|exact HI0.out|apply IsS60.alloc|apply IsS60.drewN|apply IsS60.drew|apply IsS60.set_1)|exact HI0.out))):gb253 ≠ g));clear HI0 HK HB;have HI0:=n0_;have HK:=n1_;have HB:=n2_;have BK253:=n3_;have GW253:=n4_;have GE253:=n5_;have NB0_253:=n6_;have NB253_0:=n7_;clear n0_ n1_ n2_ n3_ n4_ n5_ n6_ n7_ hb hbox hg)|((with_reducible refine gate_callee (f:=57) rfl ?_);refine goesL_ (some 7) rfl rfl Tryd.func57 (by kernel_rfl) rfl #[.pointer (some ⟨g,0,none⟩)] rfl (aE1 rfl) ?_;(with_reducible refine (spec_l71Addr.calls k g s0_0 s0_1 t254 t255 w0 _ ?side1 ?side2 A2.out).mono ?_);(case side1=>repeat (first|(with_reducible first|exact HI0.out|apply IsS60.alloc|apply IsS60.drewN|apply IsS60.drew|apply IsS60.set_1|refine IsS60.far ?_ NB0_253.out _)|exact HI0.out));(case side2=>repeat (first|(with_reducible first|exact HB.out|apply bA|apply bN|apply bD|refine bS ?_ (IsS60.ge HI0.out)|refine bS ?_ GE253.out)|exact HB.out));rintro e w80 ⟨rfl,hi,hb,hk⟩;refine ⟨_,rfl,?_⟩;have n0_:=Am (KeepBut.blk hk (bB BK253.out) NB253_0.out (by simp));have n1_:=Am (KeepBut.trans (by repeat (first|(with_reducible first|exact HK.out|apply KeepBut.set_|apply kN|apply kD|apply kA|refine keep_far ?_ GW253.out _)|exact HK.out)) hk (.inl rfl));have n2_:=Am (hb);have n3_:=Am (hi);clear BK253 HK HB HI0;have BK253:=n0_;have HK:=n1_;have HB:=n2_;have HI0:=n3_;clear n0_ n1_ n2_ n3_;(try clear hb hk hi))|((with_reducible refine gate_callee (f:=25) rfl ?_);refine goesL_ (some 8) rfl rfl Tryd.func25 (by kernel_rfl) rfl #[.string t254] rfl (aE1 rfl) ?_;(with_reducible refine (spec_AddrRead.calls k t254 t256 t257 t260 t261 t262 _ A3.out).mono ?_);rintro e w81 ⟨v258,rfl,ho0,hb⟩;refine ⟨_,rfl,?_⟩;have n0_:=Am (Kd.R_lower ho0 (keep_size (w:=w) (g:=g) (row:=none) (by repeat (first|(with_reducible first|exact HK.out|apply KeepBut.set_|apply kN|apply kD|apply kA|refine keep_far ?_ GW253.out _)|exact HK.out))));have n1_:=Am (IsS60.below (by repeat (first|(with_reducible first|exact HI0.out|apply IsS60.alloc|apply IsS60.drewN|apply IsS60.drew|apply IsS60.set_1|refine IsS60.far ?_ NB0_253.out _)|exact HI0.out)) hb);have n2_:=Am (blk_below (bB BK253.out) hb);have n3_:=Am (KeepBut.trans (by repeat (first|(with_reducible first|exact HK.out|apply KeepBut.set_|apply kN|apply kD|apply kA|refine keep_far ?_ GW253.out _)|exact HK.out)) (KeepBut.of_below hb g none) (.inl rfl));have n4_:=Am (bT (by repeat (first|(with_reducible first|exact HB.out|apply bA|apply bN|apply bD|refine bS ?_ (IsS60.ge HI0.out)|refine bS ?_ GE253.out)|exact HB.out)) hb);clear HI0 BK253 HK HB;have HO259:=n0_;have HI0:=n1_;have BK253:=n2_;have HK:=n3_;have HB:=n4_;clear n0_ n1_ n2_ n3_ n4_;(try clear hb);(try clear ho0))|((with_reducible refine gate_dst (N:=3) rfl ?_);refine box_event ?hg (N:=3) ?hd (cs:=#[.string (⟨#[]⟩:ByteArray), .slice none 0 0, .bool false, .string (⟨#[]⟩:ByteArray)]) (t:=25) ?hr ?_;(case hd=>rfl);(case hg=>rfl);(case hr=>(go_simp <;> rfl));intro gb263 hg w82 hbox hb;have n0_:=bH HO259 hb;have n1_:=Am (IsS60.below (by repeat (first|(with_reducible first|exact HI0.out|apply IsS60.alloc|apply IsS60.drewN|apply IsS60.drew|apply IsS60.set_1|refine IsS60.far ?_ NB0_253.out _)|exact HI0.out)) hb);have n2_:=Am (blk_below (bB BK253.out) hb);have n3_:=Am (KeepBut.trans (by repeat (first|(with_reducible first|exact HK.out|apply KeepBut.set_|apply kN|apply kD|apply kA|refine keep_far ?_ GW253.out _)|exact HK.out)) (KeepBut.of_below hb g none) (.inl rfl));have n4_:=Am (bT (by repeat (first|(with_reducible first|exact HB.out|apply bA|apply bN|apply bD|refine bS ?_ (IsS60.ge HI0.out)|refine bS ?_ GE253.out)|exact HB.out)) hb);have n5_:=Am (hbox);have n6_:=Am ((by rw [hg];exact (keep_size (w:=w) (g:=g) (row:=none) (by repeat (first|(with_reducible first|exact HK.out|apply KeepBut.set_|apply kN|apply kD|apply kA|refine keep_far ?_ GW253.out _)|exact HK.out))):w.heap.size ≤ gb263));have n7_:=Am ((Nat.le_trans HW0.out (by rw [hg];exact (keep_size (w:=w) (g:=g) (row:=none) (by repeat (first|(with_reducible first|exact HK.out|apply KeepBut.set_|apply kN|apply kD|apply kA|refine keep_far ?_ GW253.out _)|exact HK.out))):w.heap.size ≤ gb263):w0.heap.size ≤ gb263));have n8_:=Am ((by rw [hg];exact Nat.ne_of_lt (blk_lt (bB BK253.out)):gb253 ≠ gb263));have n9_:=Am ((by rw [hg];exact Nat.ne_of_gt (blk_lt (bB BK253.out)):gb263 ≠ gb253));have n10_:=Am ((by rw [hg];exact Nat.ne_of_lt (IsS60.lt (show IsS60 w0 _ g s0_0 t255 from by repeat (first|(with_reducible first|exact HI0.out|apply IsS60.alloc|apply IsS60.drewN|apply IsS60.drew|apply IsS60.set_1|refine IsS60.far ?_ NB0_253.out _)|exact HI0.out))):g ≠ gb263));have n11_:=Am ((by rw [hg];exact Nat.ne_of_gt (IsS60.lt (show IsS60 w0 _ g s0_0 t255 from by repeat (first|(with_reducible first|exact HI0.out|apply IsS60.alloc|apply IsS60.drewN|apply IsS60.drew|apply IsS60.set_1|refine IsS60.far ?_ NB0_253.out _)|exact HI0.out))):gb263 ≠ g));clear HO259 HI0 BK253 HK HB;have HO259:=n0_;have HI0:=n1_;have BK253:=n2_;have HK:=n3_;have HB:=n4_;have BK263:=n5_;have GW263:=n6_;have GE263:=n7_;have NB253_263:=n8_;have NB263_253:=n9_;have NB0_263:=n10_;have NB263_0:=n11_;clear n0_ n1_ n2_ n3_ n4_ n5_ n6_ n7_ n8_ n9_ n10_ n11_ hb hbox hg;have hnb83:=NB263_253.out;have hnc83:=NB253_263.out;have hnb84:=NB263_0.out;have hnc84:=NB0_263.out;obtain ⟨hcz85_0,hcz85_1,hcz85_2,hcz85_3,hfz85_0,hfz85_1,hfz85_2,hfz85_3⟩:=bX BK263.out;obtain ⟨Ao86,co86,eo86⟩:=Kd.R_slice HO259.out;subst eo86)|((with_reducible refine gate_callee (f:=52) rfl ?_);refine goesL_ (some 12) rfl rfl Tryd.func52 (by kernel_rfl) rfl #[.pointer (some ⟨g,0,none⟩), .int .i64 12] rfl (aE2 rfl rfl) ?_;(with_reducible refine (spec_l6Rd_pick.calls k g s0_0 t255 12 t264 t265 w0 _ ?side1 ?side2 A4.out).mono ?_);(case side1=>repeat (first|(with_reducible first|exact HI0.out|apply IsS60.alloc|apply IsS60.drewN|apply IsS60.drew|apply IsS60.set_1|refine IsS60.far ?_ NB0_253.out _|refine IsS60.far ?_ NB0_263.out _)|exact HI0.out));(case side2=>repeat (first|(with_reducible first|exact HB.out|apply bA|apply bN|apply bD|refine bS ?_ (IsS60.ge HI0.out)|refine bS ?_ GE253.out|refine bS ?_ GE263.out)|exact HB.out));rintro e w87 ⟨rfl,hi,hb,hk⟩;refine ⟨_,rfl,?_⟩;have n0_:=Am (KeepBut.blk hk (g':=gb253) (o:=.cells #[.string (⟨#[]⟩:ByteArray), .slice none 0 0, .bool false, .string (⟨#[]⟩:ByteArray)] 25 (0,0)) (by refine bB ?_;refine bF ?_ NB253_263.out;refine bB ?_;exact BK253.out) NB253_0.out (by simp));have n1_:=Am (Kd.R_mono (Kd.R_keep (IsS60.apart (show IsS60 w0 _ g s0_0 t255 from by repeat (first|(with_reducible first|exact HI0.out|apply IsS60.alloc|apply IsS60.drewN|apply IsS60.drew|apply IsS60.set_1|refine IsS60.far ?_ NB0_253.out _|refine IsS60.far ?_ NB0_263.out _)|exact HI0.out)) (by (with_reducible repeat (first|apply rA|apply rN|apply rD));exact (bQ HO259.out BK263.out (by decide) _ _ _ _)) (by decide)) hk (fun _ h=>h.2)) (fun _ h=>h.1));have n2_:=Am (KeepBut.blk hk (g':=gb263) (o:=.cells #[.string t256, .slice Ao86 t257.length co86, .bool t260, .string t261] 25 (0,0)) (by refine bB ?_;apply bP;refine bB ?_;exact BK263.out) NB263_0.out (by simp));have n3_:=Am (KeepBut.trans (by repeat (first|(with_reducible first|exact HK.out|apply KeepBut.set_|apply kN|apply kD|apply kA|refine keep_far ?_ GW253.out _|refine keep_far ?_ GW263.out _)|exact HK.out)) hk (.inl rfl));have n4_:=Am (hb);have n5_:=Am (hi);clear BK253 HO259 BK263 HK HB HI0;have BK253:=n0_;have HO259:=n1_;have BK263:=n2_;have HK:=n3_;have HB:=n4_;have HI0:=n5_;clear n0_ n1_ n2_ n3_ n4_ n5_;(try clear hb hk hi);obtain ⟨hcz88_0,hcz88_1,hcz88_2,hcz88_3,hfz88_0,hfz88_1,hfz88_2,hfz88_3⟩:=bX BK263.out;have hnb89:=NB253_0.out;have hnc89:=NB0_253.out;obtain ⟨hcz90_0,hcz90_1,hcz90_2,hcz90_3,hfz90_0,hfz90_1,hfz90_2,hfz90_3⟩:=bX BK253.out))
     refine bodyPost_ret (results_cell_row rfl _ _ gb253 25 #[.string t256, .slice Ao86 t257.length co86, .bool t260, .string t261] (0,0) _ rfl (by refine bB ?_;apply bP;refine bB ?_;exact BK253.out) Tryd.underlying25 rfl (by kernel_rfl)) rfl ?_
     exact ⟨_,by first|rfl|(simp <;> rfl)|(simp [*] <;> rfl),by (with_reducible repeat (first|apply rA|apply rN|apply rD));exact Kd.R_mono (Kd.R_far (p:=⟨gb253,3,none⟩) (Kd.R_far (p:=⟨gb253,2,none⟩) (Kd.R_far (p:=⟨gb253,1,none⟩) (Kd.R_far (p:=⟨gb253,0,none⟩) (Kd.R_types HO259.out BK253.out (by decide)) (fun _ hk=>hk.2) (.string t256)) (fun _ hk=>hk.2) (.slice Ao86 t257.length co86)) (fun _ hk=>hk.2) (.bool t260)) (fun _ hk=>hk.2) (.string t261)) (fun _ hk=>trivial),by repeat (first|(with_reducible first|exact HI0.out|apply IsS60.alloc|apply IsS60.drewN|apply IsS60.drew|apply IsS60.set_1|refine IsS60.far ?_ NB0_253.out _|refine IsS60.far ?_ NB0_263.out _)|exact HI0.out),by repeat (first|(with_reducible first|exact HB.out|apply bA|apply bN|apply bD|refine bS ?_ (IsS60.ge HI0.out)|refine bS ?_ GE253.out|refine bS ?_ GE263.out)|exact HB.out),by repeat (first|(with_reducible first|exact HK.out|apply KeepBut.set_|apply kN|apply kD|apply kA|refine keep_far ?_ GW253.out _|refine keep_far ?_ GW263.out _)|exact HK.out)⟩

/-! ### spec_l71Ref: function 31 -/
def spec_l71Ref.j0:Nat → Int → Bool → List Int → Int → Option (ByteArray × Int)
 | 0,_,_,_,_=>none
 | k + 1,x4,x5,x1000,x1001=>if x5 = true then ((spec_l71Addr.f k x1000 x1001).bind fun bt287=>(some (bt287.1,bt287.2))) else (if x4 = 2 then ((spec_l6Rd_of.f k x1000 x1001 (([(⟨#[97]⟩:ByteArray),(⟨#[98]⟩:ByteArray),(⟨#[97,47,98]⟩:ByteArray),(⟨#[99,47,46,46,47,98]⟩:ByteArray),(⟨#[]⟩:ByteArray),(⟨#[120,47,46,47,99]⟩:ByteArray)]:List ByteArray))).bind fun bt292=>(if 1 + bt292.1.size ≤ 9223372036854775807 then (some ((⟨#[47]⟩:ByteArray) ++ bt292.1,bt292.2)) else (none))) else (if x4 = 3 then ((spec_l6Rd_of.f k x1000 x1001 (([(⟨#[46,46]⟩:ByteArray),(⟨#[46,46,47,99]⟩:ByteArray),(⟨#[46,46,47,46,46,47,46,46]⟩:ByteArray),(⟨#[46]⟩:ByteArray),(⟨#[46,47,97]⟩:ByteArray)]:List ByteArray))).bind fun bt297=>(some (bt297.1,bt297.2))) else (if x4 = 4 then ((spec_l6Rd_of.f k x1000 x1001 (([(⟨#[63,97]⟩:ByteArray),(⟨#[63]⟩:ByteArray),(⟨#[35,116,111,112]⟩:ByteArray),(⟨#[]⟩:ByteArray),(⟨#[97,35,98]⟩:ByteArray),(⟨#[98,63,97]⟩:ByteArray)]:List ByteArray))).bind fun bt302=>(some (bt302.1,bt302.2))) else (if x4 = 5 then ((spec_l6Rd_of.f k x1000 x1001 (([(⟨#[47,47,65,66,47,97]⟩:ByteArray),(⟨#[47,47,99,100]⟩:ByteArray),(⟨#[47,47,99,100,63,120]⟩:ByteArray),(⟨#[47,47,97,98,47,37,54,49]⟩:ByteArray),(⟨#[47,47,116,111,111,108,111,110,103,47,97]⟩:ByteArray),(⟨#[47,47,97,49,47,98]⟩:ByteArray),(⟨#[47,47,47,97]⟩:ByteArray)]:List ByteArray))).bind fun bt307=>(some (bt307.1,bt307.2))) else ((spec_l6Rd_of.f k x1000 x1001 (([(⟨#[97]⟩:ByteArray),(⟨#[98]⟩:ByteArray),(⟨#[99]⟩:ByteArray),(⟨#[97,47,98]⟩:ByteArray)]:List ByteArray))).bind fun bt312=>(some (bt312.1,bt312.2)))))))
def spec_l71Ref.f (k:Nat) (s0_0:List Int) (s0_1:Int):Option (ByteArray × Int):=(spec_l6Rd_pick.f k s0_0 s0_1 8).bind fun bt285=>(if bt285.1 = 0 then (spec_l71Ref.j0 k bt285.1 (bt285.1 == 0) s0_0 bt285.2) else (spec_l71Ref.j0 k bt285.1 (bt285.1 == 1) s0_0 bt285.2))
theorem spec_l71Ref.mono_l:∀ k,(∀ y0 y1 y2 y3,LeO (spec_l71Ref.j0 k y0 y1 y2 y3) (spec_l71Ref.j0 (k + 1) y0 y1 y2 y3))
 | 0=>fun _ _ _ _ r h=>by simp [spec_l71Ref.j0] at h
 | k + 1=>by
  have ih0:=spec_l71Ref.mono_l k
  ·intro y0 y1 y2 y3
   unfold spec_l71Ref.j0
   repeat' first
   | (with_reducible apply ih0)
   | (with_reducible apply spec_l6Rd_of.mono)
   | (with_reducible apply spec_l6Rd_pick.mono)
   | (with_reducible apply spec_l71Addr.mono)
   | (with_reducible exact LeO.refl _)
   | (with_reducible exact LeO.none _)
   | (with_reducible refine LeO.ite ?_ ?_)
   | (with_reducible refine LeO.bind ?_ (fun _=>?_))







theorem spec_l71Ref.mono:∀ a0 a1 k,LeO (spec_l71Ref.f k a0 a1) (spec_l71Ref.f (k + 1) a0 a1):=by
 intro a0 a1 k
 have ih0:=spec_l71Ref.mono_l k
 unfold spec_l71Ref.f
 repeat' first
   | (with_reducible apply ih0)
   | (with_reducible apply spec_l6Rd_of.mono)
   | (with_reducible apply spec_l6Rd_pick.mono)
   | (with_reducible apply spec_l71Addr.mono)
   | (with_reducible exact LeO.refl _)
   | (with_reducible exact LeO.none _)
   | (with_reducible refine LeO.ite ?_ ?_)
   | (with_reducible refine LeO.bind ?_ (fun _=>?_))







theorem spec_l71Ref.calls (k:Nat) (g:Nat) (s0_0:List Int) (s0_1:Int) (r1:ByteArray) (r2:Int) (w0 w:World) (hI:IsS60 w0 w g s0_0 s0_1) (hB:Below w0.heap.size w0 w) (h:spec_l71Ref.f k s0_0 s0_1 = some (r1,r2)) :
  Calls Tryd.prog 31 #[.pointer (some ⟨g,0,none⟩)] w fun e w'=>e = .returned (.string r1) ∧ IsS60 w0 w' g s0_0 r2 ∧ Below w0.heap.size w0 w' ∧ KeepBut w w' g none:=by
 have HI0:=Am hI
 have HK:=Am (KeepBut.refl w g none)
 have HL:=Am hB.size
 clear hI
 have HW0:=Am hB.size
 have HB:=Am hB
 clear hB
 have H:((spec_l6Rd_pick.f k s0_0 s0_1 8).bind fun bt285=>(if bt285.1 = 0 then (spec_l71Ref.j0 k bt285.1 (bt285.1 == 0) s0_0 bt285.2) else (spec_l71Ref.j0 k bt285.1 (bt285.1 == 1) s0_0 bt285.2))) = some (r1,r2):=h
 clear h
 replace H:=bI H
 obtain ⟨⟨t285,t286⟩,A20,H⟩:=H
 replace H:(if t285 = 0 then (spec_l71Ref.j0 k t285 (t285 == 0) s0_0 t286) else (spec_l71Ref.j0 k t285 (t285 == 1) s0_0 t286)) = some (r1,r2):=H
 have A2:=Am A20
 clear A20
 have HC3:=Am H
 clear H
 go_enter Tryd.func31,Tryd.ntmps31
 go_upto_if 5 with (first|((with_reducible refine gate_callee (f:=52) rfl ?_);refine goesL_ (some 4) rfl rfl Tryd.func52 (by kernel_rfl) rfl #[.pointer (some ⟨g,0,none⟩), .int .i64 8] rfl (aE2 rfl rfl) ?_;(with_reducible refine (spec_l6Rd_pick.calls k g s0_0 s0_1 8 t285 t286 w0 _ ?side1 ?side2 A2.out).mono ?_);(case side1=>repeat (first|(with_reducible first|exact HI0.out|apply IsS60.alloc|apply IsS60.drewN|apply IsS60.drew|apply IsS60.set_1)|exact HI0.out));(case side2=>repeat (first|(with_reducible first|exact HB.out|apply bA|apply bN|apply bD|refine bS ?_ (IsS60.ge HI0.out))|exact HB.out));rintro e w4 ⟨rfl,hi,hb,hk⟩;refine ⟨_,rfl,?_⟩;have n0_:=Am (KeepBut.trans (by repeat (first|(with_reducible first|exact HK.out|apply KeepBut.set_|apply kN|apply kD|apply kA)|exact HK.out)) hk (.inl rfl));have n1_:=Am (hb);have n2_:=Am (hi);clear HK HB HI0;have HK:=n0_;have HB:=n1_;have HI0:=n2_;clear n0_ n1_ n2_;(try clear hb hk hi)))
 (try simp only [Act.put,lT,lZ,lS])
 go_cut [5] (fun v5 wc=>∃ (kq:Nat) (x5_2:Bool),v5 = .bool x5_2 ∧ Aside0 (spec_l71Ref.j0 kq t285 x5_2 s0_0 t286 = some (r1,r2)) ∧ Aside0 (kq ≤ k) ∧ Aside0 (IsS60 w0 wc g s0_0 t286) ∧ Aside0 (KeepBut w wc g none) ∧ Aside0 (Below w0.heap.size w0 wc))
 case first =>
  have H:=HC3.out
  clear HC3
  by_cases c5:t285 = 0
  ·rw [if_pos c5] at H
   have c5b0:(t285 == 0) = true:=beq_iff_eq.mpr c5
   have c5b1:(t285 != 0) = false:=bne_eq_false_iff_eq.mpr c5
   clear c5
   (first|rw [c5b0]|(simp only [i64_w,i32_w];rw [c5b0])|skip)
   have H':=Am H
   clear H
   go_wp2
   go_meet
   case rel=>exact ⟨_,((t285 == 0)),(by first|rfl|(simp;done)|(simp only [i64_w,i32_w] <;> rfl)|(simp [*];done)|(simp [emp_bne,emp_beq];done)),H',⟨by first|omega|exact Nat.le_refl _⟩,⟨by repeat (first|(with_reducible first|exact HI0.out|apply IsS60.alloc|apply IsS60.drewN|apply IsS60.drew|apply IsS60.set_1)|exact HI0.out)⟩,⟨by repeat (first|(with_reducible first|exact HK.out|apply KeepBut.set_|apply kN|apply kD|apply kA)|exact HK.out)⟩,⟨by repeat (first|(with_reducible first|exact HB.out|apply bA|apply bN|apply bD|refine bS ?_ (IsS60.ge HI0.out))|exact HB.out)⟩⟩
  ·rw [if_neg c5] at H
   have c5b0:(t285 == 0) = false:=beq_eq_false_iff_ne.mpr c5
   have c5b1:(t285 != 0) = true:=bne_iff_ne.mpr c5
   (first|rw [c5b0]|(simp only [i64_w,i32_w];rw [c5b0])|skip)
   have H':=Am H
   clear H
   go_wp2
   go_meet
   case rel=>exact ⟨_,((t285 == 1)),(by first|rfl|(simp;done)|(simp only [i64_w,i32_w] <;> rfl)|(simp [*];done)|(simp [emp_bne,emp_beq];done)),H',⟨by first|omega|exact Nat.le_refl _⟩,⟨by repeat (first|(with_reducible first|exact HI0.out|apply IsS60.alloc|apply IsS60.drewN|apply IsS60.drew|apply IsS60.set_1)|exact HI0.out)⟩,⟨by repeat (first|(with_reducible first|exact HK.out|apply KeepBut.set_|apply kN|apply kD|apply kA)|exact HK.out)⟩,⟨by repeat (first|(with_reducible first|exact HB.out|apply bA|apply bN|apply bD|refine bS ?_ (IsS60.ge HI0.out))|exact HB.out)⟩⟩
 case rest =>
  clear HC3
  try clear p2
  try clear c3
  try clear c5
  try clear c5b0
  try clear c5b1
  obtain ⟨kq,x5_2,rfl,HA,HJ2,HI0,HK,HB⟩:=hcut
  cases kq with
  | zero=>exact absurd HA.out (by simp [spec_l71Ref.j0])
  | succ kj2 =>
   have H:=HA.out
   clear HA
   simp only [spec_l71Ref.j0] at H
   by_cases c6:x5_2 = true
   ·subst c6
    have H1:((spec_l71Addr.f kj2 s0_0 t286).bind fun bt287=>(some (bt287.1,bt287.2))) = some (r1,r2):=by rw [if_pos rfl] at H;exact H
    clear H
    have H:=H1
    clear H1
    replace H:=bI H
    obtain ⟨⟨t287,t288⟩,A70,H⟩:=H
    replace H:(some (t287,t288)) = some (r1,r2):=H
    have A7:=Am A70
    clear A70
    simp only [Option.some.injEq,Prod.mk.injEq] at H
    obtain ⟨rfl,rfl⟩:=H
    go_wp2_with (first|((with_reducible refine gate_callee (f:=57) rfl ?_);refine goesL_ (some 9) rfl rfl Tryd.func57 (by kernel_rfl) rfl #[.pointer (some ⟨g,0,none⟩)] rfl (aE1 rfl) ?_;(with_reducible refine (spec_l71Addr.calls kj2 g s0_0 t286 t287 t288 w0 _ ?side1 ?side2 A7.out).mono ?_);(case side1=>repeat (first|(with_reducible first|exact HI0.out|apply IsS60.alloc|apply IsS60.drewN|apply IsS60.drew|apply IsS60.set_1)|exact HI0.out));(case side2=>repeat (first|(with_reducible first|exact HB.out|apply bA|apply bN|apply bD|refine bS ?_ (IsS60.ge HI0.out))|exact HB.out));rintro e w8 ⟨rfl,hi,hb,hk⟩;refine ⟨_,rfl,?_⟩;have n0_:=Am (KeepBut.trans (by repeat (first|(with_reducible first|exact HK.out|apply KeepBut.set_|apply kN|apply kD|apply kA)|exact HK.out)) hk (.inl rfl));have n1_:=Am (hb);have n2_:=Am (hi);clear HK HB HI0;have HK:=n0_;have HB:=n1_;have HI0:=n2_;clear n0_ n1_ n2_;(try clear hb hk hi)))
    go_ret
    exact ⟨by first|rfl|(simp <;> rfl)|(simp [*] <;> rfl),by repeat (first|(with_reducible first|exact HI0.out|apply IsS60.alloc|apply IsS60.drewN|apply IsS60.drew|apply IsS60.set_1)|exact HI0.out),by repeat (first|(with_reducible first|exact HB.out|apply bA|apply bN|apply bD|refine bS ?_ (IsS60.ge HI0.out))|exact HB.out),by repeat (first|(with_reducible first|exact HK.out|apply KeepBut.set_|apply kN|apply kD|apply kA)|exact HK.out)⟩
   ·replace c6:=Bool.eq_false_iff.mpr c6
    subst c6
    have H1:(if t285 = 2 then ((spec_l6Rd_of.f kj2 s0_0 t286 (([(⟨#[97]⟩:ByteArray),(⟨#[98]⟩:ByteArray),(⟨#[97,47,98]⟩:ByteArray),(⟨#[99,47,46,46,47,98]⟩:ByteArray),(⟨#[]⟩:ByteArray),(⟨#[120,47,46,47,99]⟩:ByteArray)]:List ByteArray))).bind fun bt292=>(if 1 + bt292.1.size ≤ 9223372036854775807 then (some ((⟨#[47]⟩:ByteArray) ++ bt292.1,bt292.2)) else (none))) else (if t285 = 3 then ((spec_l6Rd_of.f kj2 s0_0 t286 (([(⟨#[46,46]⟩:ByteArray),(⟨#[46,46,47,99]⟩:ByteArray),(⟨#[46,46,47,46,46,47,46,46]⟩:ByteArray),(⟨#[46]⟩:ByteArray),(⟨#[46,47,97]⟩:ByteArray)]:List ByteArray))).bind fun bt297=>(some (bt297.1,bt297.2))) else (if t285 = 4 then ((spec_l6Rd_of.f kj2 s0_0 t286 (([(⟨#[63,97]⟩:ByteArray),(⟨#[63]⟩:ByteArray),(⟨#[35,116,111,112]⟩:ByteArray),(⟨#[]⟩:ByteArray),(⟨#[97,35,98]⟩:ByteArray),(⟨#[98,63,97]⟩:ByteArray)]:List ByteArray))).bind fun bt302=>(some (bt302.1,bt302.2))) else (if t285 = 5 then ((spec_l6Rd_of.f kj2 s0_0 t286 (([(⟨#[47,47,65,66,47,97]⟩:ByteArray),(⟨#[47,47,99,100]⟩:ByteArray),(⟨#[47,47,99,100,63,120]⟩:ByteArray),(⟨#[47,47,97,98,47,37,54,49]⟩:ByteArray),(⟨#[47,47,116,111,111,108,111,110,103,47,97]⟩:ByteArray),(⟨#[47,47,97,49,47,98]⟩:ByteArray),(⟨#[47,47,47,97]⟩:ByteArray)]:List ByteArray))).bind fun bt307=>(some (bt307.1,bt307.2))) else ((spec_l6Rd_of.f kj2 s0_0 t286 (([(⟨#[97]⟩:ByteArray),(⟨#[98]⟩:ByteArray),(⟨#[99]⟩:ByteArray),(⟨#[97,47,98]⟩:ByteArray)]:List ByteArray))).bind fun bt312=>(some (bt312.1,bt312.2))))))) = some (r1,r2):=by rw [if_neg (show ¬ (false = true) by decide)] at H;exact H
    clear H
    have H:=H1
    clear H1
    by_cases c9:t285 = 2
    ·rw [if_pos c9] at H
     have c9b0:(t285 == 2) = true:=beq_iff_eq.mpr c9
     have c9b1:(t285 != 2) = false:=bne_eq_false_iff_eq.mpr c9
     clear c9
     obtain ⟨y289,hy289⟩:∃ y_:List ByteArray,y_ = (([(⟨#[97]⟩:ByteArray),(⟨#[98]⟩:ByteArray),(⟨#[97,47,98]⟩:ByteArray),(⟨#[99,47,46,46,47,98]⟩:ByteArray),(⟨#[]⟩:ByteArray),(⟨#[120,47,46,47,99]⟩:ByteArray)]:List ByteArray)):=⟨_,rfl⟩
     replace H:((spec_l6Rd_of.f kj2 s0_0 t286 y289).bind fun bt292=>(if 1 + bt292.1.size ≤ 9223372036854775807 then (some ((⟨#[47]⟩:ByteArray) ++ bt292.1,bt292.2)) else (none))) = some (r1,r2):=by first|(rw [hy289];with_reducible exact H)|(have H2_:=(Option.bind_some _ _).symm.trans H;rw [hy289];with_reducible exact H2_)|(have H2_:=(Option.bind_some _ _).symm.trans H;with_reducible exact H2_)|with_reducible exact H|(rw [hy289];exact H)|exact H
     have Ny289:=Am hy289
     clear hy289
     replace H:=bI H
     obtain ⟨⟨t292,t293⟩,A100,H⟩:=H
     replace H:(if 1 + t292.size ≤ 9223372036854775807 then (some ((⟨#[47]⟩:ByteArray) ++ t292,t293)) else (none)) = some (r1,r2):=H
     have A10:=Am A100
     clear A100
     by_cases c11:1 + t292.size ≤ 9223372036854775807
     ·rw [if_pos c11] at H
      have c11b0:=eq_true c11
      have c11b1:=decide_eq_true c11
      try have c11b2:(9223372036854775807 < 1 + t292.size) = False:=eq_false (Nat.not_lt.2 c11)
      simp only [Option.some.injEq,Prod.mk.injEq] at H
      obtain ⟨rfl,rfl⟩:=H
      go_wp2_with (first|((with_reducible refine gate_dst (N:=13) rfl ?_);refine Kd.R_lit Kd.string _ 9 ?hg (N:=13) ?hd (xs:=([(⟨#[97]⟩:ByteArray),(⟨#[98]⟩:ByteArray),(⟨#[97,47,98]⟩:ByteArray),(⟨#[99,47,46,46,47,98]⟩:ByteArray),(⟨#[]⟩:ByteArray),(⟨#[120,47,46,47,99]⟩:ByteArray)]:List ByteArray)) (inner:=[.string (⟨#[97]⟩:ByteArray), .string (⟨#[98]⟩:ByteArray), .string (⟨#[97,47,98]⟩:ByteArray), .string (⟨#[99,47,46,46,47,98]⟩:ByteArray), .string (⟨#[]⟩:ByteArray), .string (⟨#[120,47,46,47,99]⟩:ByteArray)]) (ok:=fun _=>True) (okp:=fun _=>True) ?hr ?hp (fun _ hk=>hk) trivial (Below.refl _ _) (Nat.le_refl _) (by simp) ?_;(case hd=>rfl);(case hg=>rfl);(case hr=>(go_simp <;> rfl));(case hp=>exact (Reps.one (show Kd.M Kd.string _ _ _ (⟨#[97]⟩:ByteArray) [.string (⟨#[97]⟩:ByteArray)] from rfl) (Reps.one (show Kd.M Kd.string _ _ _ (⟨#[98]⟩:ByteArray) [.string (⟨#[98]⟩:ByteArray)] from rfl) (Reps.one (show Kd.M Kd.string _ _ _ (⟨#[97,47,98]⟩:ByteArray) [.string (⟨#[97,47,98]⟩:ByteArray)] from rfl) (Reps.one (show Kd.M Kd.string _ _ _ (⟨#[99,47,46,46,47,98]⟩:ByteArray) [.string (⟨#[99,47,46,46,47,98]⟩:ByteArray)] from rfl) (Reps.one (show Kd.M Kd.string _ _ _ (⟨#[]⟩:ByteArray) [.string (⟨#[]⟩:ByteArray)] from rfl) (Reps.one (show Kd.M Kd.string _ _ _ (⟨#[120,47,46,47,99]⟩:ByteArray) [.string (⟨#[120,47,46,47,99]⟩:ByteArray)] from rfl) (Reps.none _ _))))))));intro v290 w12 ho13 hb hg_ hnew_;clear hg_ hnew_;(first|rw [← Ny289.out] at ho13|(simp only [Int.reduceToNat] at ho13;rw [← Ny289.out] at ho13));have n0_:=Am (Kd.R_lower ho13 (keep_size (w:=w) (g:=g) (row:=none) (by repeat (first|(with_reducible first|exact HK.out|apply KeepBut.set_|apply kN|apply kD|apply kA)|exact HK.out))));have n1_:=Am (IsS60.below (by repeat (first|(with_reducible first|exact HI0.out|apply IsS60.alloc|apply IsS60.drewN|apply IsS60.drew|apply IsS60.set_1)|exact HI0.out)) hb);have n2_:=Am (KeepBut.trans (by repeat (first|(with_reducible first|exact HK.out|apply KeepBut.set_|apply kN|apply kD|apply kA)|exact HK.out)) (KeepBut.of_below hb g none) (.inl rfl));have n3_:=Am (bT (by repeat (first|(with_reducible first|exact HB.out|apply bA|apply bN|apply bD|refine bS ?_ (IsS60.ge HI0.out))|exact HB.out)) hb);clear HI0 HK HB;have HO291:=n0_;have HI0:=n1_;have HK:=n2_;have HB:=n3_;clear n0_ n1_ n2_ n3_ hb ho13;obtain ⟨Ao14,co14,eo14⟩:=Kd.R_slice HO291.out;subst eo14)|((with_reducible refine gate_callee (f:=53) rfl ?_);refine goesL_ (some 14) rfl rfl Tryd.func53 (by kernel_rfl) rfl #[.pointer (some ⟨g,0,none⟩), .slice Ao14 y289.length co14] rfl (aE2 rfl rfl) ?_;(with_reducible refine (spec_l6Rd_of.calls kj2 g s0_0 t286 _ _ y289 t292 t293 w0 _ ?side1 ?side2 ?side3 ?side4 ?side5 A10.out).mono ?_);(case side1=>repeat (first|(with_reducible first|exact HI0.out|apply IsS60.alloc|apply IsS60.drewN|apply IsS60.drew|apply IsS60.set_1)|exact HI0.out));(case side2=>repeat (first|(with_reducible first|exact HB.out|apply bA|apply bN|apply bD|refine bS ?_ (IsS60.ge HI0.out))|exact HB.out));(case side3=>repeat (first|exact (Kd.R_reads' HO291.out).2.2|(with_reducible refine bC ?_)));(case side4=>exact (Kd.R_reads' HO291.out).2.1);(case side5=>exact far_slice (IsS60.own_ne HI0.out HO291.out (by decide)));rintro e w15 ⟨rfl,hi,hb,hk⟩;refine ⟨_,rfl,?_⟩;have n0_:=Am (Kd.R_mono (Kd.R_keep (IsS60.apart (show IsS60 w0 _ g s0_0 t286 from by repeat (first|(with_reducible first|exact HI0.out|apply IsS60.alloc|apply IsS60.drewN|apply IsS60.drew|apply IsS60.set_1)|exact HI0.out)) (bR HO291.out) (by decide)) hk (fun _ h=>h.2)) (fun _ h=>h.1));have n1_:=Am (KeepBut.trans (by repeat (first|(with_reducible first|exact HK.out|apply KeepBut.set_|apply kN|apply kD|apply kA)|exact HK.out)) hk (.inl rfl));have n2_:=Am (hb);have n3_:=Am (hi);clear HO291 HK HB HI0;have HO291:=n0_;have HK:=n1_;have HB:=n2_;have HI0:=n3_;clear n0_ n1_ n2_ n3_;(try clear hb hk hi)))
      go_ret
      exact ⟨by first|rfl|(simp <;> rfl)|(simp [*] <;> rfl),by repeat (first|(with_reducible first|exact HI0.out|apply IsS60.alloc|apply IsS60.drewN|apply IsS60.drew|apply IsS60.set_1)|exact HI0.out),by repeat (first|(with_reducible first|exact HB.out|apply bA|apply bN|apply bD|refine bS ?_ (IsS60.ge HI0.out))|exact HB.out),by repeat (first|(with_reducible first|exact HK.out|apply KeepBut.set_|apply kN|apply kD|apply kA)|exact HK.out)⟩
     ·rw [if_neg c11] at H
      exact absurd H (by simp)
    ·rw [if_neg c9] at H
     have c9b0:(t285 == 2) = false:=beq_eq_false_iff_ne.mpr c9
     have c9b1:(t285 != 2) = true:=bne_iff_ne.mpr c9
     by_cases c16:t285 = 3
     ·rw [if_pos c16] at H
      have c16b0:(t285 == 3) = true:=beq_iff_eq.mpr c16
      have c16b1:(t285 != 3) = false:=bne_eq_false_iff_eq.mpr c16
      clear c16
      obtain ⟨y294,hy294⟩:∃ y_:List ByteArray,y_ = (([(⟨#[46,46]⟩:ByteArray),(⟨#[46,46,47,99]⟩:ByteArray),(⟨#[46,46,47,46,46,47,46,46]⟩:ByteArray),(⟨#[46]⟩:ByteArray),(⟨#[46,47,97]⟩:ByteArray)]:List ByteArray)):=⟨_,rfl⟩
      replace H:((spec_l6Rd_of.f kj2 s0_0 t286 y294).bind fun bt297=>(some (bt297.1,bt297.2))) = some (r1,r2):=by first|(rw [hy294];with_reducible exact H)|(have H2_:=(Option.bind_some _ _).symm.trans H;rw [hy294];with_reducible exact H2_)|(have H2_:=(Option.bind_some _ _).symm.trans H;with_reducible exact H2_)|with_reducible exact H|(rw [hy294];exact H)|exact H
      have Ny294:=Am hy294
      clear hy294
      replace H:=bI H
      obtain ⟨⟨t297,t298⟩,A170,H⟩:=H
      replace H:(some (t297,t298)) = some (r1,r2):=H
      have A17:=Am A170
      clear A170
      simp only [Option.some.injEq,Prod.mk.injEq] at H
      obtain ⟨rfl,rfl⟩:=H
      go_wp2_with (first|((with_reducible refine gate_dst (N:=19) rfl ?_);refine Kd.R_lit Kd.string _ 9 ?hg (N:=19) ?hd (xs:=([(⟨#[46,46]⟩:ByteArray),(⟨#[46,46,47,99]⟩:ByteArray),(⟨#[46,46,47,46,46,47,46,46]⟩:ByteArray),(⟨#[46]⟩:ByteArray),(⟨#[46,47,97]⟩:ByteArray)]:List ByteArray)) (inner:=[.string (⟨#[46,46]⟩:ByteArray), .string (⟨#[46,46,47,99]⟩:ByteArray), .string (⟨#[46,46,47,46,46,47,46,46]⟩:ByteArray), .string (⟨#[46]⟩:ByteArray), .string (⟨#[46,47,97]⟩:ByteArray)]) (ok:=fun _=>True) (okp:=fun _=>True) ?hr ?hp (fun _ hk=>hk) trivial (Below.refl _ _) (Nat.le_refl _) (by simp) ?_;(case hd=>rfl);(case hg=>rfl);(case hr=>(go_simp <;> rfl));(case hp=>exact (Reps.one (show Kd.M Kd.string _ _ _ (⟨#[46,46]⟩:ByteArray) [.string (⟨#[46,46]⟩:ByteArray)] from rfl) (Reps.one (show Kd.M Kd.string _ _ _ (⟨#[46,46,47,99]⟩:ByteArray) [.string (⟨#[46,46,47,99]⟩:ByteArray)] from rfl) (Reps.one (show Kd.M Kd.string _ _ _ (⟨#[46,46,47,46,46,47,46,46]⟩:ByteArray) [.string (⟨#[46,46,47,46,46,47,46,46]⟩:ByteArray)] from rfl) (Reps.one (show Kd.M Kd.string _ _ _ (⟨#[46]⟩:ByteArray) [.string (⟨#[46]⟩:ByteArray)] from rfl) (Reps.one (show Kd.M Kd.string _ _ _ (⟨#[46,47,97]⟩:ByteArray) [.string (⟨#[46,47,97]⟩:ByteArray)] from rfl) (Reps.none _ _)))))));intro v295 w18 ho19 hb hg_ hnew_;clear hg_ hnew_;(first|rw [← Ny294.out] at ho19|(simp only [Int.reduceToNat] at ho19;rw [← Ny294.out] at ho19));have n0_:=Am (Kd.R_lower ho19 (keep_size (w:=w) (g:=g) (row:=none) (by repeat (first|(with_reducible first|exact HK.out|apply KeepBut.set_|apply kN|apply kD|apply kA)|exact HK.out))));have n1_:=Am (IsS60.below (by repeat (first|(with_reducible first|exact HI0.out|apply IsS60.alloc|apply IsS60.drewN|apply IsS60.drew|apply IsS60.set_1)|exact HI0.out)) hb);have n2_:=Am (KeepBut.trans (by repeat (first|(with_reducible first|exact HK.out|apply KeepBut.set_|apply kN|apply kD|apply kA)|exact HK.out)) (KeepBut.of_below hb g none) (.inl rfl));have n3_:=Am (bT (by repeat (first|(with_reducible first|exact HB.out|apply bA|apply bN|apply bD|refine bS ?_ (IsS60.ge HI0.out))|exact HB.out)) hb);clear HI0 HK HB;have HO296:=n0_;have HI0:=n1_;have HK:=n2_;have HB:=n3_;clear n0_ n1_ n2_ n3_ hb ho19;obtain ⟨Ao20,co20,eo20⟩:=Kd.R_slice HO296.out;subst eo20)|((with_reducible refine gate_callee (f:=53) rfl ?_);refine goesL_ (some 20) rfl rfl Tryd.func53 (by kernel_rfl) rfl #[.pointer (some ⟨g,0,none⟩), .slice Ao20 y294.length co20] rfl (aE2 rfl rfl) ?_;(with_reducible refine (spec_l6Rd_of.calls kj2 g s0_0 t286 _ _ y294 t297 t298 w0 _ ?side1 ?side2 ?side3 ?side4 ?side5 A17.out).mono ?_);(case side1=>repeat (first|(with_reducible first|exact HI0.out|apply IsS60.alloc|apply IsS60.drewN|apply IsS60.drew|apply IsS60.set_1)|exact HI0.out));(case side2=>repeat (first|(with_reducible first|exact HB.out|apply bA|apply bN|apply bD|refine bS ?_ (IsS60.ge HI0.out))|exact HB.out));(case side3=>repeat (first|exact (Kd.R_reads' HO296.out).2.2|(with_reducible refine bC ?_)));(case side4=>exact (Kd.R_reads' HO296.out).2.1);(case side5=>exact far_slice (IsS60.own_ne HI0.out HO296.out (by decide)));rintro e w21 ⟨rfl,hi,hb,hk⟩;refine ⟨_,rfl,?_⟩;have n0_:=Am (Kd.R_mono (Kd.R_keep (IsS60.apart (show IsS60 w0 _ g s0_0 t286 from by repeat (first|(with_reducible first|exact HI0.out|apply IsS60.alloc|apply IsS60.drewN|apply IsS60.drew|apply IsS60.set_1)|exact HI0.out)) (bR HO296.out) (by decide)) hk (fun _ h=>h.2)) (fun _ h=>h.1));have n1_:=Am (KeepBut.trans (by repeat (first|(with_reducible first|exact HK.out|apply KeepBut.set_|apply kN|apply kD|apply kA)|exact HK.out)) hk (.inl rfl));have n2_:=Am (hb);have n3_:=Am (hi);clear HO296 HK HB HI0;have HO296:=n0_;have HK:=n1_;have HB:=n2_;have HI0:=n3_;clear n0_ n1_ n2_ n3_;(try clear hb hk hi)))
      go_ret
      exact ⟨by first|rfl|(simp <;> rfl)|(simp [*] <;> rfl),by repeat (first|(with_reducible first|exact HI0.out|apply IsS60.alloc|apply IsS60.drewN|apply IsS60.drew|apply IsS60.set_1)|exact HI0.out),by repeat (first|(with_reducible first|exact HB.out|apply bA|apply bN|apply bD|refine bS ?_ (IsS60.ge HI0.out))|exact HB.out),by repeat (first|(with_reducible first|exact HK.out|apply KeepBut.set_|apply kN|apply kD|apply kA)|exact HK.out)⟩
     ·rw [if_neg c16] at H
      have c16b0:(t285 == 3) = false:=beq_eq_false_iff_ne.mpr c16
      have c16b1:(t285 != 3) = true:=bne_iff_ne.mpr c16
      by_cases c22:t285 = 4
      ·rw [if_pos c22] at H
       have c22b0:(t285 == 4) = true:=beq_iff_eq.mpr c22
       have c22b1:(t285 != 4) = false:=bne_eq_false_iff_eq.mpr c22
       clear c22
       obtain ⟨y299,hy299⟩:∃ y_:List ByteArray,y_ = (([(⟨#[63,97]⟩:ByteArray),(⟨#[63]⟩:ByteArray),(⟨#[35,116,111,112]⟩:ByteArray),(⟨#[]⟩:ByteArray),(⟨#[97,35,98]⟩:ByteArray),(⟨#[98,63,97]⟩:ByteArray)]:List ByteArray)):=⟨_,rfl⟩
       replace H:((spec_l6Rd_of.f kj2 s0_0 t286 y299).bind fun bt302=>(some (bt302.1,bt302.2))) = some (r1,r2):=by first|(rw [hy299];with_reducible exact H)|(have H2_:=(Option.bind_some _ _).symm.trans H;rw [hy299];with_reducible exact H2_)|(have H2_:=(Option.bind_some _ _).symm.trans H;with_reducible exact H2_)|with_reducible exact H|(rw [hy299];exact H)|exact H
       have Ny299:=Am hy299
       clear hy299
       replace H:=bI H
       obtain ⟨⟨t302,t303⟩,A230,H⟩:=H
       replace H:(some (t302,t303)) = some (r1,r2):=H
       have A23:=Am A230
       clear A230
       simp only [Option.some.injEq,Prod.mk.injEq] at H
       obtain ⟨rfl,rfl⟩:=H
       go_wp2_with (first|((with_reducible refine gate_dst (N:=24) rfl ?_);refine Kd.R_lit Kd.string _ 9 ?hg (N:=24) ?hd (xs:=([(⟨#[63,97]⟩:ByteArray),(⟨#[63]⟩:ByteArray),(⟨#[35,116,111,112]⟩:ByteArray),(⟨#[]⟩:ByteArray),(⟨#[97,35,98]⟩:ByteArray),(⟨#[98,63,97]⟩:ByteArray)]:List ByteArray)) (inner:=[.string (⟨#[63,97]⟩:ByteArray), .string (⟨#[63]⟩:ByteArray), .string (⟨#[35,116,111,112]⟩:ByteArray), .string (⟨#[]⟩:ByteArray), .string (⟨#[97,35,98]⟩:ByteArray), .string (⟨#[98,63,97]⟩:ByteArray)]) (ok:=fun _=>True) (okp:=fun _=>True) ?hr ?hp (fun _ hk=>hk) trivial (Below.refl _ _) (Nat.le_refl _) (by simp) ?_;(case hd=>rfl);(case hg=>rfl);(case hr=>(go_simp <;> rfl));(case hp=>exact (Reps.one (show Kd.M Kd.string _ _ _ (⟨#[63,97]⟩:ByteArray) [.string (⟨#[63,97]⟩:ByteArray)] from rfl) (Reps.one (show Kd.M Kd.string _ _ _ (⟨#[63]⟩:ByteArray) [.string (⟨#[63]⟩:ByteArray)] from rfl) (Reps.one (show Kd.M Kd.string _ _ _ (⟨#[35,116,111,112]⟩:ByteArray) [.string (⟨#[35,116,111,112]⟩:ByteArray)] from rfl) (Reps.one (show Kd.M Kd.string _ _ _ (⟨#[]⟩:ByteArray) [.string (⟨#[]⟩:ByteArray)] from rfl) (Reps.one (show Kd.M Kd.string _ _ _ (⟨#[97,35,98]⟩:ByteArray) [.string (⟨#[97,35,98]⟩:ByteArray)] from rfl) (Reps.one (show Kd.M Kd.string _ _ _ (⟨#[98,63,97]⟩:ByteArray) [.string (⟨#[98,63,97]⟩:ByteArray)] from rfl) (Reps.none _ _))))))));intro v300 w24 ho25 hb hg_ hnew_;clear hg_ hnew_;(first|rw [← Ny299.out] at ho25|(simp only [Int.reduceToNat] at ho25;rw [← Ny299.out] at ho25));have n0_:=Am (Kd.R_lower ho25 (keep_size (w:=w) (g:=g) (row:=none) (by repeat (first|(with_reducible first|exact HK.out|apply KeepBut.set_|apply kN|apply kD|apply kA)|exact HK.out))));have n1_:=Am (IsS60.below (by repeat (first|(with_reducible first|exact HI0.out|apply IsS60.alloc|apply IsS60.drewN|apply IsS60.drew|apply IsS60.set_1)|exact HI0.out)) hb);have n2_:=Am (KeepBut.trans (by repeat (first|(with_reducible first|exact HK.out|apply KeepBut.set_|apply kN|apply kD|apply kA)|exact HK.out)) (KeepBut.of_below hb g none) (.inl rfl));have n3_:=Am (bT (by repeat (first|(with_reducible first|exact HB.out|apply bA|apply bN|apply bD|refine bS ?_ (IsS60.ge HI0.out))|exact HB.out)) hb);clear HI0 HK HB;have HO301:=n0_;have HI0:=n1_;have HK:=n2_;have HB:=n3_;clear n0_ n1_ n2_ n3_ hb ho25;obtain ⟨Ao26,co26,eo26⟩:=Kd.R_slice HO301.out;subst eo26)|((with_reducible refine gate_callee (f:=53) rfl ?_);refine goesL_ (some 25) rfl rfl Tryd.func53 (by kernel_rfl) rfl #[.pointer (some ⟨g,0,none⟩), .slice Ao26 y299.length co26] rfl (aE2 rfl rfl) ?_;(with_reducible refine (spec_l6Rd_of.calls kj2 g s0_0 t286 _ _ y299 t302 t303 w0 _ ?side1 ?side2 ?side3 ?side4 ?side5 A23.out).mono ?_);(case side1=>repeat (first|(with_reducible first|exact HI0.out|apply IsS60.alloc|apply IsS60.drewN|apply IsS60.drew|apply IsS60.set_1)|exact HI0.out));(case side2=>repeat (first|(with_reducible first|exact HB.out|apply bA|apply bN|apply bD|refine bS ?_ (IsS60.ge HI0.out))|exact HB.out));(case side3=>repeat (first|exact (Kd.R_reads' HO301.out).2.2|(with_reducible refine bC ?_)));(case side4=>exact (Kd.R_reads' HO301.out).2.1);(case side5=>exact far_slice (IsS60.own_ne HI0.out HO301.out (by decide)));rintro e w27 ⟨rfl,hi,hb,hk⟩;refine ⟨_,rfl,?_⟩;have n0_:=Am (Kd.R_mono (Kd.R_keep (IsS60.apart (show IsS60 w0 _ g s0_0 t286 from by repeat (first|(with_reducible first|exact HI0.out|apply IsS60.alloc|apply IsS60.drewN|apply IsS60.drew|apply IsS60.set_1)|exact HI0.out)) (bR HO301.out) (by decide)) hk (fun _ h=>h.2)) (fun _ h=>h.1));have n1_:=Am (KeepBut.trans (by repeat (first|(with_reducible first|exact HK.out|apply KeepBut.set_|apply kN|apply kD|apply kA)|exact HK.out)) hk (.inl rfl));have n2_:=Am (hb);have n3_:=Am (hi);clear HO301 HK HB HI0;have HO301:=n0_;have HK:=n1_;have HB:=n2_;have HI0:=n3_;clear n0_ n1_ n2_ n3_;(try clear hb hk hi)))
       go_ret
       exact ⟨by first|rfl|(simp <;> rfl)|(simp [*] <;> rfl),by repeat (first|(with_reducible first|exact HI0.out|apply IsS60.alloc|apply IsS60.drewN|apply IsS60.drew|apply IsS60.set_1)|exact HI0.out),by repeat (first|(with_reducible first|exact HB.out|apply bA|apply bN|apply bD|refine bS ?_ (IsS60.ge HI0.out))|exact HB.out),by repeat (first|(with_reducible first|exact HK.out|apply KeepBut.set_|apply kN|apply kD|apply kA)|exact HK.out)⟩
      ·rw [if_neg c22] at H
       have c22b0:(t285 == 4) = false:=beq_eq_false_iff_ne.mpr c22
       have c22b1:(t285 != 4) = true:=bne_iff_ne.mpr c22
       by_cases c28:t285 = 5
       ·rw [if_pos c28] at H
        have c28b0:(t285 == 5) = true:=beq_iff_eq.mpr c28
        have c28b1:(t285 != 5) = false:=bne_eq_false_iff_eq.mpr c28
        clear c28
        obtain ⟨y304,hy304⟩:∃ y_:List ByteArray,y_ = (([(⟨#[47,47,65,66,47,97]⟩:ByteArray),(⟨#[47,47,99,100]⟩:ByteArray),(⟨#[47,47,99,100,63,120]⟩:ByteArray),(⟨#[47,47,97,98,47,37,54,49]⟩:ByteArray),(⟨#[47,47,116,111,111,108,111,110,103,47,97]⟩:ByteArray),(⟨#[47,47,97,49,47,98]⟩:ByteArray),(⟨#[47,47,47,97]⟩:ByteArray)]:List ByteArray)):=⟨_,rfl⟩
        replace H:((spec_l6Rd_of.f kj2 s0_0 t286 y304).bind fun bt307=>(some (bt307.1,bt307.2))) = some (r1,r2):=by first|(rw [hy304];with_reducible exact H)|(have H2_:=(Option.bind_some _ _).symm.trans H;rw [hy304];with_reducible exact H2_)|(have H2_:=(Option.bind_some _ _).symm.trans H;with_reducible exact H2_)|with_reducible exact H|(rw [hy304];exact H)|exact H
        have Ny304:=Am hy304
        clear hy304
        replace H:=bI H
        obtain ⟨⟨t307,t308⟩,A290,H⟩:=H
        replace H:(some (t307,t308)) = some (r1,r2):=H
        have A29:=Am A290
        clear A290
        simp only [Option.some.injEq,Prod.mk.injEq] at H
        obtain ⟨rfl,rfl⟩:=H
        go_wp2_with (first|((with_reducible refine gate_dst (N:=29) rfl ?_);refine Kd.R_lit Kd.string _ 9 ?hg (N:=29) ?hd (xs:=([(⟨#[47,47,65,66,47,97]⟩:ByteArray),(⟨#[47,47,99,100]⟩:ByteArray),(⟨#[47,47,99,100,63,120]⟩:ByteArray),(⟨#[47,47,97,98,47,37,54,49]⟩:ByteArray),(⟨#[47,47,116,111,111,108,111,110,103,47,97]⟩:ByteArray),(⟨#[47,47,97,49,47,98]⟩:ByteArray),(⟨#[47,47,47,97]⟩:ByteArray)]:List ByteArray)) (inner:=[.string (⟨#[47,47,65,66,47,97]⟩:ByteArray), .string (⟨#[47,47,99,100]⟩:ByteArray), .string (⟨#[47,47,99,100,63,120]⟩:ByteArray), .string (⟨#[47,47,97,98,47,37,54,49]⟩:ByteArray), .string (⟨#[47,47,116,111,111,108,111,110,103,47,97]⟩:ByteArray), .string (⟨#[47,47,97,49,47,98]⟩:ByteArray), .string (⟨#[47,47,47,97]⟩:ByteArray)]) (ok:=fun _=>True) (okp:=fun _=>True) ?hr ?hp (fun _ hk=>hk) trivial (Below.refl _ _) (Nat.le_refl _) (by simp) ?_;(case hd=>rfl);(case hg=>rfl);(case hr=>(go_simp <;> rfl));(case hp=>exact (Reps.one (show Kd.M Kd.string _ _ _ (⟨#[47,47,65,66,47,97]⟩:ByteArray) [.string (⟨#[47,47,65,66,47,97]⟩:ByteArray)] from rfl) (Reps.one (show Kd.M Kd.string _ _ _ (⟨#[47,47,99,100]⟩:ByteArray) [.string (⟨#[47,47,99,100]⟩:ByteArray)] from rfl) (Reps.one (show Kd.M Kd.string _ _ _ (⟨#[47,47,99,100,63,120]⟩:ByteArray) [.string (⟨#[47,47,99,100,63,120]⟩:ByteArray)] from rfl) (Reps.one (show Kd.M Kd.string _ _ _ (⟨#[47,47,97,98,47,37,54,49]⟩:ByteArray) [.string (⟨#[47,47,97,98,47,37,54,49]⟩:ByteArray)] from rfl) (Reps.one (show Kd.M Kd.string _ _ _ (⟨#[47,47,116,111,111,108,111,110,103,47,97]⟩:ByteArray) [.string (⟨#[47,47,116,111,111,108,111,110,103,47,97]⟩:ByteArray)] from rfl) (Reps.one (show Kd.M Kd.string _ _ _ (⟨#[47,47,97,49,47,98]⟩:ByteArray) [.string (⟨#[47,47,97,49,47,98]⟩:ByteArray)] from rfl) (Reps.one (show Kd.M Kd.string _ _ _ (⟨#[47,47,47,97]⟩:ByteArray) [.string (⟨#[47,47,47,97]⟩:ByteArray)] from rfl) (Reps.none _ _)))))))));intro v305 w30 ho31 hb hg_ hnew_;clear hg_ hnew_;(first|rw [← Ny304.out] at ho31|(simp only [Int.reduceToNat] at ho31;rw [← Ny304.out] at ho31));have n0_:=Am (Kd.R_lower ho31 (keep_size (w:=w) (g:=g) (row:=none) (by repeat (first|(with_reducible first|exact HK.out|apply KeepBut.set_|apply kN|apply kD|apply kA)|exact HK.out))));have n1_:=Am (IsS60.below (by repeat (first|(with_reducible first|exact HI0.out|apply IsS60.alloc|apply IsS60.drewN|apply IsS60.drew|apply IsS60.set_1)|exact HI0.out)) hb);have n2_:=Am (KeepBut.trans (by repeat (first|(with_reducible first|exact HK.out|apply KeepBut.set_|apply kN|apply kD|apply kA)|exact HK.out)) (KeepBut.of_below hb g none) (.inl rfl));have n3_:=Am (bT (by repeat (first|(with_reducible first|exact HB.out|apply bA|apply bN|apply bD|refine bS ?_ (IsS60.ge HI0.out))|exact HB.out)) hb);clear HI0 HK HB;have HO306:=n0_;have HI0:=n1_;have HK:=n2_;have HB:=n3_;clear n0_ n1_ n2_ n3_ hb ho31;obtain ⟨Ao32,co32,eo32⟩:=Kd.R_slice HO306.out;subst eo32)|((with_reducible refine gate_callee (f:=53) rfl ?_);refine goesL_ (some 30) rfl rfl Tryd.func53 (by kernel_rfl) rfl #[.pointer (some ⟨g,0,none⟩), .slice Ao32 y304.length co32] rfl (aE2 rfl rfl) ?_;(with_reducible refine (spec_l6Rd_of.calls kj2 g s0_0 t286 _ _ y304 t307 t308 w0 _ ?side1 ?side2 ?side3 ?side4 ?side5 A29.out).mono ?_);(case side1=>repeat (first|(with_reducible first|exact HI0.out|apply IsS60.alloc|apply IsS60.drewN|apply IsS60.drew|apply IsS60.set_1)|exact HI0.out));(case side2=>repeat (first|(with_reducible first|exact HB.out|apply bA|apply bN|apply bD|refine bS ?_ (IsS60.ge HI0.out))|exact HB.out));(case side3=>repeat (first|exact (Kd.R_reads' HO306.out).2.2|(with_reducible refine bC ?_)));(case side4=>exact (Kd.R_reads' HO306.out).2.1);(case side5=>exact far_slice (IsS60.own_ne HI0.out HO306.out (by decide)));rintro e w33 ⟨rfl,hi,hb,hk⟩;refine ⟨_,rfl,?_⟩;have n0_:=Am (Kd.R_mono (Kd.R_keep (IsS60.apart (show IsS60 w0 _ g s0_0 t286 from by repeat (first|(with_reducible first|exact HI0.out|apply IsS60.alloc|apply IsS60.drewN|apply IsS60.drew|apply IsS60.set_1)|exact HI0.out)) (bR HO306.out) (by decide)) hk (fun _ h=>h.2)) (fun _ h=>h.1));have n1_:=Am (KeepBut.trans (by repeat (first|(with_reducible first|exact HK.out|apply KeepBut.set_|apply kN|apply kD|apply kA)|exact HK.out)) hk (.inl rfl));have n2_:=Am (hb);have n3_:=Am (hi);clear HO306 HK HB HI0;have HO306:=n0_;have HK:=n1_;have HB:=n2_;have HI0:=n3_;clear n0_ n1_ n2_ n3_;(try clear hb hk hi)))
        go_ret
        exact ⟨by first|rfl|(simp <;> rfl)|(simp [*] <;> rfl),by repeat (first|(with_reducible first|exact HI0.out|apply IsS60.alloc|apply IsS60.drewN|apply IsS60.drew|apply IsS60.set_1)|exact HI0.out),by repeat (first|(with_reducible first|exact HB.out|apply bA|apply bN|apply bD|refine bS ?_ (IsS60.ge HI0.out))|exact HB.out),by repeat (first|(with_reducible first|exact HK.out|apply KeepBut.set_|apply kN|apply kD|apply kA)|exact HK.out)⟩
       ·rw [if_neg c28] at H
        have c28b0:(t285 == 5) = false:=beq_eq_false_iff_ne.mpr c28
        have c28b1:(t285 != 5) = true:=bne_iff_ne.mpr c28
        obtain ⟨y309,hy309⟩:∃ y_:List ByteArray,y_ = (([(⟨#[97]⟩:ByteArray),(⟨#[98]⟩:ByteArray),(⟨#[99]⟩:ByteArray),(⟨#[97,47,98]⟩:ByteArray)]:List ByteArray)):=⟨_,rfl⟩
        replace H:((spec_l6Rd_of.f kj2 s0_0 t286 y309).bind fun bt312=>(some (bt312.1,bt312.2))) = some (r1,r2):=by first|(rw [hy309];with_reducible exact H)|(have H2_:=(Option.bind_some _ _).symm.trans H;rw [hy309];with_reducible exact H2_)|(have H2_:=(Option.bind_some _ _).symm.trans H;with_reducible exact H2_)|with_reducible exact H|(rw [hy309];exact H)|exact H
        have Ny309:=Am hy309
        clear hy309
        replace H:=bI H
        obtain ⟨⟨t312,t313⟩,A340,H⟩:=H
        replace H:(some (t312,t313)) = some (r1,r2):=H
        have A34:=Am A340
        clear A340
        simp only [Option.some.injEq,Prod.mk.injEq] at H
        obtain ⟨rfl,rfl⟩:=H
        go_wp2_with (first|((with_reducible refine gate_dst (N:=32) rfl ?_);refine Kd.R_lit Kd.string _ 9 ?hg (N:=32) ?hd (xs:=([(⟨#[97]⟩:ByteArray),(⟨#[98]⟩:ByteArray),(⟨#[99]⟩:ByteArray),(⟨#[97,47,98]⟩:ByteArray)]:List ByteArray)) (inner:=[.string (⟨#[97]⟩:ByteArray), .string (⟨#[98]⟩:ByteArray), .string (⟨#[99]⟩:ByteArray), .string (⟨#[97,47,98]⟩:ByteArray)]) (ok:=fun _=>True) (okp:=fun _=>True) ?hr ?hp (fun _ hk=>hk) trivial (Below.refl _ _) (Nat.le_refl _) (by simp) ?_;(case hd=>rfl);(case hg=>rfl);(case hr=>(go_simp <;> rfl));(case hp=>exact (Reps.one (show Kd.M Kd.string _ _ _ (⟨#[97]⟩:ByteArray) [.string (⟨#[97]⟩:ByteArray)] from rfl) (Reps.one (show Kd.M Kd.string _ _ _ (⟨#[98]⟩:ByteArray) [.string (⟨#[98]⟩:ByteArray)] from rfl) (Reps.one (show Kd.M Kd.string _ _ _ (⟨#[99]⟩:ByteArray) [.string (⟨#[99]⟩:ByteArray)] from rfl) (Reps.one (show Kd.M Kd.string _ _ _ (⟨#[97,47,98]⟩:ByteArray) [.string (⟨#[97,47,98]⟩:ByteArray)] from rfl) (Reps.none _ _))))));intro v310 w35 ho36 hb hg_ hnew_;clear hg_ hnew_;(first|rw [← Ny309.out] at ho36|(simp only [Int.reduceToNat] at ho36;rw [← Ny309.out] at ho36));have n0_:=Am (Kd.R_lower ho36 (keep_size (w:=w) (g:=g) (row:=none) (by repeat (first|(with_reducible first|exact HK.out|apply KeepBut.set_|apply kN|apply kD|apply kA)|exact HK.out))));have n1_:=Am (IsS60.below (by repeat (first|(with_reducible first|exact HI0.out|apply IsS60.alloc|apply IsS60.drewN|apply IsS60.drew|apply IsS60.set_1)|exact HI0.out)) hb);have n2_:=Am (KeepBut.trans (by repeat (first|(with_reducible first|exact HK.out|apply KeepBut.set_|apply kN|apply kD|apply kA)|exact HK.out)) (KeepBut.of_below hb g none) (.inl rfl));have n3_:=Am (bT (by repeat (first|(with_reducible first|exact HB.out|apply bA|apply bN|apply bD|refine bS ?_ (IsS60.ge HI0.out))|exact HB.out)) hb);clear HI0 HK HB;have HO311:=n0_;have HI0:=n1_;have HK:=n2_;have HB:=n3_;clear n0_ n1_ n2_ n3_ hb ho36;obtain ⟨Ao37,co37,eo37⟩:=Kd.R_slice HO311.out;subst eo37)|((with_reducible refine gate_callee (f:=53) rfl ?_);refine goesL_ (some 33) rfl rfl Tryd.func53 (by kernel_rfl) rfl #[.pointer (some ⟨g,0,none⟩), .slice Ao37 y309.length co37] rfl (aE2 rfl rfl) ?_;(with_reducible refine (spec_l6Rd_of.calls kj2 g s0_0 t286 _ _ y309 t312 t313 w0 _ ?side1 ?side2 ?side3 ?side4 ?side5 A34.out).mono ?_);(case side1=>repeat (first|(with_reducible first|exact HI0.out|apply IsS60.alloc|apply IsS60.drewN|apply IsS60.drew|apply IsS60.set_1)|exact HI0.out));(case side2=>repeat (first|(with_reducible first|exact HB.out|apply bA|apply bN|apply bD|refine bS ?_ (IsS60.ge HI0.out))|exact HB.out));(case side3=>repeat (first|exact (Kd.R_reads' HO311.out).2.2|(with_reducible refine bC ?_)));(case side4=>exact (Kd.R_reads' HO311.out).2.1);(case side5=>exact far_slice (IsS60.own_ne HI0.out HO311.out (by decide)));rintro e w38 ⟨rfl,hi,hb,hk⟩;refine ⟨_,rfl,?_⟩;have n0_:=Am (Kd.R_mono (Kd.R_keep (IsS60.apart (show IsS60 w0 _ g s0_0 t286 from by repeat (first|(with_reducible first|exact HI0.out|apply IsS60.alloc|apply IsS60.drewN|apply IsS60.drew|apply IsS60.set_1)|exact HI0.out)) (bR HO311.out) (by decide)) hk (fun _ h=>h.2)) (fun _ h=>h.1));have n1_:=Am (KeepBut.trans (by repeat (first|(with_reducible first|exact HK.out|apply KeepBut.set_|apply kN|apply kD|apply kA)|exact HK.out)) hk (.inl rfl));have n2_:=Am (hb);have n3_:=Am (hi);clear HO311 HK HB HI0;have HO311:=n0_;have HK:=n1_;have HB:=n2_;have HI0:=n3_;clear n0_ n1_ n2_ n3_;(try clear hb hk hi)))
        go_ret
        exact ⟨by first|rfl|(simp <;> rfl)|(simp [*] <;> rfl),by repeat (first|(with_reducible first|exact HI0.out|apply IsS60.alloc|apply IsS60.drewN|apply IsS60.drew|apply IsS60.set_1)|exact HI0.out),by repeat (first|(with_reducible first|exact HB.out|apply bA|apply bN|apply bD|refine bS ?_ (IsS60.ge HI0.out))|exact HB.out),by repeat (first|(with_reducible first|exact HK.out|apply KeepBut.set_|apply kN|apply kD|apply kA)|exact HK.out)⟩

/-! ### spec_DrawAddrJoin: function 11 -/
def spec_DrawAddrJoin.f (k:Nat) (l0:List Int):Option (ByteArray × List ByteArray × Bool × ByteArray × ByteArray):=(spec_l6Open.f l0).bind fun bt315=>((spec_l71Struct.f k bt315.1 bt315.2).bind fun bt318=>((spec_l71Ref.f k bt315.1 bt318.2.2.2.2).bind fun bt325=>(some (bt318.1,bt318.2.1,bt318.2.2.1,bt318.2.2.2.1,bt325.1))))
theorem spec_DrawAddrJoin.mono:∀ a0 k,LeO (spec_DrawAddrJoin.f k a0) (spec_DrawAddrJoin.f (k + 1) a0):=by
 intro a0 k
 unfold spec_DrawAddrJoin.f
 repeat' first
   | (with_reducible apply spec_l71Ref.mono)
   | (with_reducible apply spec_l71Struct.mono)
   | (with_reducible exact LeO.refl _)
   | (with_reducible exact LeO.none _)
   | (with_reducible refine LeO.ite ?_ ?_)
   | (with_reducible refine LeO.bind ?_ (fun _=>?_))





theorem spec_DrawAddrJoin.calls (k:Nat) (A0:Option Addr) (c0:Nat) (l0:List Int) (r1:ByteArray) (r2:List ByteArray) (r3:Bool) (r4:ByteArray) (r5:ByteArray) (w:World) (hr0:Kd.C (Kd.int .u8) w A0 l0.length l0) (hc0:l0.length ≤ c0) (h:spec_DrawAddrJoin.f k l0 = some (r1,r2,r3,r4,r5)) :
  Calls Tryd.prog 11 #[.slice A0 l0.length c0] w fun e w'=>∃ v1_:Value,e = .returned (.tuple #[.agg #[.string r1,v1_, .bool r3, .string r4], .string r5]) ∧ Kd.R Kd.string 9 w' w.heap.size (fun _=>True) v1_ r2 ∧ Below w.heap.size w w':=by
 have hu25:=Tryd.underlying25
 have HR0:=Am hr0
 have HC0:=Am hc0
 clear hr0 hc0
 have HB:=Am (Below.refl w.heap.size w)
 have H:((spec_l6Open.f l0).bind fun bt315=>((spec_l71Struct.f k bt315.1 bt315.2).bind fun bt318=>((spec_l71Ref.f k bt315.1 bt318.2.2.2.2).bind fun bt325=>(some (bt318.1,bt318.2.1,bt318.2.2.1,bt318.2.2.2.1,bt325.1))))) = some (r1,r2,r3,r4,r5):=h
 clear h
 replace H:=bI H
 obtain ⟨⟨t315,t316⟩,A20,H⟩:=H
 replace H:((spec_l71Struct.f k t315 t316).bind fun bt318=>((spec_l71Ref.f k t315 bt318.2.2.2.2).bind fun bt325=>(some (bt318.1,bt318.2.1,bt318.2.2.1,bt318.2.2.2.1,bt325.1)))) = some (r1,r2,r3,r4,r5):=H
 have A2:=Am A20
 clear A20
 replace H:=bI H
 obtain ⟨⟨t318,t319,t322,t323,t324⟩,A30,H⟩:=H
 replace H:((spec_l71Ref.f k t315 t324).bind fun bt325=>(some (t318,t319,t322,t323,bt325.1))) = some (r1,r2,r3,r4,r5):=H
 have A3:=Am A30
 clear A30
 replace H:=bI H
 obtain ⟨⟨t325,t326⟩,A40,H⟩:=H
 replace H:(some (t318,t319,t322,t323,t325)) = some (r1,r2,r3,r4,r5):=H
 have A4:=Am A40
 clear A40
 simp only [Option.some.injEq,Prod.mk.injEq] at H
 obtain ⟨rfl,rfl,rfl,rfl,rfl⟩:=H
 go_enter Tryd.func11,Tryd.ntmps11
 go_wp2_with (first|((with_reducible refine gate_dst (N:=2) rfl ?_);refine box_event ?hg (N:=2) ?hd (cs:=#[.string (⟨#[]⟩:ByteArray), .slice none 0 0, .bool false, .string (⟨#[]⟩:ByteArray)]) (t:=25) ?hr ?_;(case hd=>rfl);(case hg=>rfl);(case hr=>(go_simp <;> rfl));intro gb314 hg w5 hbox hb;have n0_:=Am (bT (by repeat (first|(with_reducible first|exact HB.out|apply bA|apply bN|apply bD)|exact HB.out)) hb);have n1_:=Am (hbox);have n2_:=Am ((by rw [hg];exact (bU (by repeat (first|(with_reducible first|exact HB.out|apply bA|apply bN|apply bD)|exact HB.out))):w.heap.size ≤ gb314));have n3_:=n2_;clear HB;have HB:=n0_;have BK314:=n1_;have GW314:=n2_;have GE314:=n3_;clear n0_ n1_ n2_ n3_ hb hbox hg)|((with_reducible refine gate_callee (f:=29) rfl ?_);refine goesL_ (some 6) rfl rfl Tryd.func29 (by kernel_rfl) rfl #[.slice A0 l0.length c0] rfl (aE1 rfl) ?_;(with_reducible refine (spec_l6Open.calls _ _ l0 t315 t316 w _ ?side1 ?side2 ?side3 A2.out).mono ?_);(case side1=>repeat (first|(with_reducible first|exact HB.out|apply bA|apply bN|apply bD|refine bS ?_ GE314.out)|exact HB.out));(case side2=>exact HR0.out);(case side3=>exact HC0.out);rintro e w6 ⟨g317,rfl,hi,hb,hb2⟩;refine ⟨_,rfl,?_⟩;have n0_:=Am (blk_below (bB BK314.out) hb2);have n1_:=Am (hb);have n2_:=Am (hi);have n3_:=Am (IsS60.ne_blk hi (blk_below (bB BK314.out) hb2) (by decide));have n4_:=Am (Ne.symm (IsS60.ne_blk hi (blk_below (bB BK314.out) hb2) (by decide)));clear BK314 HB;have BK314:=n0_;have HB:=n1_;have HI317:=n2_;have NB317_314:=n3_;have NB314_317:=n4_;clear n0_ n1_ n2_ n3_ n4_;(try clear hb hb2 hi))|((with_reducible refine gate_callee (f:=30) rfl ?_);refine goesL_ (some 8) rfl rfl Tryd.func30 (by kernel_rfl) rfl #[.pointer (some ⟨g317,0,none⟩)] rfl (aE1 rfl) ?_;(with_reducible refine (spec_l71Struct.calls k g317 t315 t316 t318 t319 t322 t323 t324 w _ ?side1 ?side2 A3.out).mono ?_);(case side1=>repeat (first|(with_reducible first|exact HI317.out|apply IsS60.alloc|apply IsS60.drewN|apply IsS60.drew|apply IsS60.set_1|refine IsS60.far ?_ NB317_314.out _)|exact HI317.out));(case side2=>repeat (first|(with_reducible first|exact HB.out|apply bA|apply bN|apply bD|refine bS ?_ (IsS60.ge HI317.out)|refine bS ?_ GE314.out)|exact HB.out));rintro e w7 ⟨v320,rfl,ho0,hi,hb,hk⟩;refine ⟨_,rfl,?_⟩;have n0_:=Am (KeepBut.blk hk (bB BK314.out) NB314_317.out (by simp));have n1_:=Am (Kd.R_lower ho0 (bU (by repeat (first|(with_reducible first|exact HB.out|apply bA|apply bN|apply bD|refine bS ?_ (IsS60.ge HI317.out)|refine bS ?_ GE314.out)|exact HB.out))));have n2_:=Am (hb);have n3_:=Am (hi);clear BK314 HB HI317;have BK314:=n0_;have HO321:=n1_;have HB:=n2_;have HI317:=n3_;clear n0_ n1_ n2_ n3_;(try clear hb hk hi);(try clear ho0))|((with_reducible refine gate_callee (f:=31) rfl ?_);refine goesL_ (some 10) rfl rfl Tryd.func31 (by kernel_rfl) rfl #[.pointer (some ⟨g317,0,none⟩)] rfl (aE1 rfl) ?_;(with_reducible refine (spec_l71Ref.calls k g317 t315 t324 t325 t326 w _ ?side1 ?side2 A4.out).mono ?_);(case side1=>repeat (first|(with_reducible first|exact HI317.out|apply IsS60.alloc|apply IsS60.drewN|apply IsS60.drew|apply IsS60.set_1|refine IsS60.far ?_ NB317_314.out _)|exact HI317.out));(case side2=>repeat (first|(with_reducible first|exact HB.out|apply bA|apply bN|apply bD|refine bS ?_ (IsS60.ge HI317.out)|refine bS ?_ GE314.out)|exact HB.out));rintro e w8 ⟨rfl,hi,hb,hk⟩;refine ⟨_,rfl,?_⟩;have n0_:=Am (KeepBut.blk hk (bB BK314.out) NB314_317.out (by simp));have n1_:=Am (Kd.R_mono (Kd.R_keep (IsS60.apart (show IsS60 w _ g317 t315 t324 from by repeat (first|(with_reducible first|exact HI317.out|apply IsS60.alloc|apply IsS60.drewN|apply IsS60.drew|apply IsS60.set_1|refine IsS60.far ?_ NB317_314.out _)|exact HI317.out)) (bR HO321.out) (by decide)) hk (fun _ h=>h.2)) (fun _ h=>h.1));have n2_:=Am (hb);have n3_:=Am (hi);clear BK314 HO321 HB HI317;have BK314:=n0_;have HO321:=n1_;have HB:=n2_;have HI317:=n3_;clear n0_ n1_ n2_ n3_;(try clear hb hk hi);have hnb9:=NB314_317.out;have hnc9:=NB317_314.out;obtain ⟨hcz10_0,hcz10_1,hcz10_2,hcz10_3,hfz10_0,hfz10_1,hfz10_2,hfz10_3⟩:=bX BK314.out;obtain ⟨Ao11,co11,eo11⟩:=Kd.R_slice HO321.out;subst eo11))
 refine bodyPost_ret (results_ct rfl _ _ gb314 25 #[.string t318, .slice Ao11 t319.length co11, .bool t322, .string t323] (0,0) _ rfl (by refine bB ?_;apply bP;refine bB ?_;exact BK314.out) Tryd.underlying25 rfl (by kernel_rfl)) rfl ?_
 exact ⟨_,by first|rfl|(simp <;> rfl)|(simp [*] <;> rfl),by (with_reducible repeat (first|apply rA|apply rN|apply rD));exact Kd.R_mono (Kd.R_far (p:=⟨gb314,3,none⟩) (Kd.R_far (p:=⟨gb314,2,none⟩) (Kd.R_far (p:=⟨gb314,1,none⟩) (Kd.R_far (p:=⟨gb314,0,none⟩) (Kd.R_types HO321.out BK314.out (by decide)) (fun _ hk=>hk.2) (.string t318)) (fun _ hk=>hk.2) (.slice Ao11 t319.length co11)) (fun _ hk=>hk.2) (.bool t322)) (fun _ hk=>hk.2) (.string t323)) (fun _ hk=>trivial),by repeat (first|(with_reducible first|exact HB.out|apply bA|apply bN|apply bD|refine bS ?_ (IsS60.ge HI317.out)|refine bS ?_ GE314.out)|exact HB.out)⟩

end Go.Proofs.YtbnnamjaljohiaaDoor.P
