-- Written by a program of this session (patch_print.py over the kit's print; given texts in wip/given).
-- Cut down by a program of this session (wip/tools/prune.py) to what its claim can name.
import Derived.Test.YtbnnamjaljohiaaDoorSq
import Derived.Test.YtbnnamjaljohiaaDoorPx0
import Derived.Test.YtbnnamjaljohiaaDoorPx2
import Derived.Test.YtbnnamjaljohiaaDoorPx3
namespace Go.Proofs.YtbnnamjaljohiaaDoor.P
open Go.RowKit Go.Proofs.YtbnnamjaljohiaaDoorW.PrintWords Go.Proofs.YtbnnamjaljohiaaDoorW.PrintLast Go.Proofs.YtbnnamjaljohiaaDoorW.PrintMore
attribute [local go_sem] max2_int min2_int max_two min_two max_three min_three max_four min_four   -- for this text's walks alone
set_option linter.unusedVariables false
set_option linter.unusedSimpArgs false
set_option maxHeartbeats 8000000
set_option maxRecDepth 100000

def spec_AddrRead.f (k:Nat) (a0:ByteArray):Option (ByteArray × List ByteArray × Bool × ByteArray × Bool):=(spec_l1Cut.f k a0 35).bind fun bt303=>(if (a0.size:Int) > 60 then (some ((⟨#[]⟩:ByteArray),([]:List ByteArray),false,(⟨#[]⟩:ByteArray),false)) else (if (bt303.1.size:Int) < 2 then (some ((⟨#[]⟩:ByteArray),([]:List ByteArray),false,(⟨#[]⟩:ByteArray),false)) else (if 0 ≤ 2 then (if 2 ≤ (bt303.1.size:Int) then (if (bt303.1.extract 0 2).toList = ([47,47]:List UInt8) then ((spec_l1Whole.f k (bt303.1.extract 2 bt303.1.size)).bind fun bt306=>(some (bt306.1,bt306.2.1,bt306.2.2.1,bt306.2.2.2.1,bt306.2.2.2.2))) else (some ((⟨#[]⟩:ByteArray),([]:List ByteArray),false,(⟨#[]⟩:ByteArray),false))) else (none)) else (none))))
theorem spec_AddrRead.mono:∀ a0 k,LeO (spec_AddrRead.f k a0) (spec_AddrRead.f (k + 1) a0):=by
 intro a0 k
 unfold spec_AddrRead.f
 repeat' first
   | (with_reducible apply spec_l1Cut.mono)
   | (with_reducible apply spec_l1Whole.mono)
   | (with_reducible exact LeO.refl _)
   | (with_reducible exact LeO.none _)
   | (with_reducible refine LeO.ite ?_ ?_)
   | (with_reducible refine LeO.bind ?_ (fun _=>?_))
   | exact spec_l1Cut.mono _ _ _
   | exact spec_l1Whole.mono _ _
   | exact LeO.none _
   | refine LeO.ite ?_ ?_
   | refine LeO.bind ?_ (fun _=>?_)
theorem spec_AddrRead.calls (k:Nat) (a0:ByteArray) (r1:ByteArray) (r2:List ByteArray) (r3:Bool) (r4:ByteArray) (r5:Bool) (w:World) (h:spec_AddrRead.f k a0 = some (r1,r2,r3,r4,r5)) :
  Calls Tryd.prog 25 #[.string a0] w fun e w'=>∃ v1_:Value,e = .returned (.tuple #[.agg #[.string r1,v1_, .bool r3, .string r4], .bool r5]) ∧ Kd.R Kd.string 9 w' w.heap.size (fun _=>True) v1_ r2 ∧ Below w.heap.size w w':=by
 have hu25:=Tryd.underlying25
 have HB:=Am (Below.refl w.heap.size w)
 have H:((spec_l1Cut.f k a0 35).bind fun bt303=>(if (a0.size:Int) > 60 then (some ((⟨#[]⟩:ByteArray),([]:List ByteArray),false,(⟨#[]⟩:ByteArray),false)) else (if (bt303.1.size:Int) < 2 then (some ((⟨#[]⟩:ByteArray),([]:List ByteArray),false,(⟨#[]⟩:ByteArray),false)) else (if 0 ≤ 2 then (if 2 ≤ (bt303.1.size:Int) then (if (bt303.1.extract 0 2).toList = ([47,47]:List UInt8) then ((spec_l1Whole.f k (bt303.1.extract 2 bt303.1.size)).bind fun bt306=>(some (bt306.1,bt306.2.1,bt306.2.2.1,bt306.2.2.2.1,bt306.2.2.2.2))) else (some ((⟨#[]⟩:ByteArray),([]:List ByteArray),false,(⟨#[]⟩:ByteArray),false))) else (none)) else (none))))) = some (r1,r2,r3,r4,r5):=h
 clear h
 replace H:=bI H
 obtain ⟨⟨t303,t304,t305⟩,A20,H⟩:=H
 replace H:(if (a0.size:Int) > 60 then (some ((⟨#[]⟩:ByteArray),([]:List ByteArray),false,(⟨#[]⟩:ByteArray),false)) else (if (t303.size:Int) < 2 then (some ((⟨#[]⟩:ByteArray),([]:List ByteArray),false,(⟨#[]⟩:ByteArray),false)) else (if 0 ≤ 2 then (if 2 ≤ (t303.size:Int) then (if (t303.extract 0 2).toList = ([47,47]:List UInt8) then ((spec_l1Whole.f k (t303.extract 2 t303.size)).bind fun bt306=>(some (bt306.1,bt306.2.1,bt306.2.2.1,bt306.2.2.2.1,bt306.2.2.2.2))) else (some ((⟨#[]⟩:ByteArray),([]:List ByteArray),false,(⟨#[]⟩:ByteArray),false))) else (none)) else (none)))) = some (r1,r2,r3,r4,r5):=H
 have A2:=Am A20
 clear A20
 by_cases c3:(a0.size:Int) > 60
 ·rw [if_pos c3] at H
  have c3b0:decide (60 < (a0.size:Int)) = true:=decide_eq_true c3
  have c3b1:decide (60 < a0.size) = true:=decide_eq_true (by omega)
  clear c3
  simp only [Option.some.injEq,Prod.mk.injEq] at H
  obtain ⟨rfl,rfl,rfl,rfl,rfl⟩:=H
  go_enter Tryd.func25,Tryd.ntmps25
  go_wp2_with (first|((with_reducible refine gate_dst (N:=2) rfl ?_);(try (refine gate_guard (by rfl) ?_;dsimp only));refine box_event ?hg (N:=2) ?hd (cs:=#[.string (⟨#[]⟩:ByteArray), .slice none 0 0, .bool false, .string (⟨#[]⟩:ByteArray)]) (t:=25) ?hr ?_;(case hd=>rfl);(case hg=>rfl);(case hr=>(go_simp <;> rfl));intro gb302 hg w4 hbox hb;have n0_:=Am (bT (by repeat (first|(with_reducible first|exact HB.out|apply bA|apply bN|apply bD)|exact HB.out)) hb);have n1_:=Am (hbox);have n2_:=Am ((by rw [hg];exact (bU (by repeat (first|(with_reducible first|exact HB.out|apply bA|apply bN|apply bD)|exact HB.out))):w.heap.size ≤ gb302));have n3_:=n2_;clear HB;have HB:=n0_;have BK302:=n1_;have GW302:=n2_;have GE302:=n3_;clear n0_ n1_ n2_ n3_ hb hbox hg)|((with_reducible refine gate_callee (f:=32) rfl ?_);refine goesL_ (some 9) rfl rfl Tryd.func32 (by kernel_rfl) rfl #[.string a0, .int .u8 35] rfl (aE2 rfl rfl) ?_;(with_reducible refine (spec_l1Cut.calls k a0 35 t303 t304 t305 _ A2.out).mono ?_);rintro e w' ⟨rfl,⟨nd,rfl⟩⟩;refine ⟨_,rfl,?_⟩;(try (rw [drewN_self w4];generalize hq_:World.drewN w4 _ = w4;have n0_:Aside0 (w4.heap[gb302]? = some (.cells #[.string (⟨#[]⟩:ByteArray), .slice none 0 0, .bool false, .string (⟨#[]⟩:ByteArray)] 25 (0,0))):=⟨by rw [← hq_];exact (bB BK302.out)⟩;have n1_:Aside0 (Below w.heap.size w w4):=⟨by rw [← hq_];exact (by repeat (first|(with_reducible first|exact HB.out|apply bA|apply bN|apply bD|refine bS ?_ GE302.out)|exact HB.out))⟩;clear BK302 HB hq_;have BK302:=n0_;have HB:=n1_;clear n0_ n1_));have hcz5_0:w4.cell? ⟨gb302,0,none⟩ = some (.string (⟨#[]⟩:ByteArray)):=bM BK302.out 0 rfl;have hcz5_1:w4.cell? ⟨gb302,1,none⟩ = some (.slice none 0 0):=bM BK302.out 1 rfl;have hcz5_2:w4.cell? ⟨gb302,2,none⟩ = some (.bool false):=bM BK302.out 2 rfl;have hcz5_3:w4.cell? ⟨gb302,3,none⟩ = some (.string (⟨#[]⟩:ByteArray)):=bM BK302.out 3 rfl;have hfz5_0:=bZ BK302.out 0;have hfz5_1:=bZ BK302.out 1;have hfz5_2:=bZ BK302.out 2;have hfz5_3:=bZ BK302.out 3))
  refine bodyPost_ret (results_ct rfl _ _ gb302 25 #[.string (⟨#[]⟩:ByteArray), .slice none 0 0, .bool false, .string (⟨#[]⟩:ByteArray)] (0,0) _ rfl (by refine bB ?_;apply bP;refine bB ?_;exact BK302.out) Tryd.underlying25 rfl (by kernel_rfl)) rfl ?_
  exact ⟨_,by first|rfl|(simp <;> rfl)|(simp [*] <;> rfl),by first|exact Kd.R_nil _ _ _ _ _|exact Kd.N_nil _ _ _ _ _|exact Kd.V_nil _ _ _ _ _|exact Kd.Q_nil _ _ _ _ _|exact Kd.S_nil _ _ _ _ _,by repeat (first|(with_reducible first|exact HB.out|apply bA|apply bN|apply bD|refine bS ?_ GE302.out)|exact HB.out)⟩
 ·rw [if_neg c3] at H
  have c3b0:decide (60 < (a0.size:Int)) = false:=decide_eq_false c3
  have c3b1:decide (60 < a0.size) = false:=decide_eq_false (by omega)
  clear c3
  by_cases c6:(t303.size:Int) < 2
  ·rw [if_pos c6] at H
   have c6b0:decide ((t303.size:Int) < 2) = true:=decide_eq_true c6
   have c6b1:decide (t303.size < 2) = true:=decide_eq_true (by omega)
   clear c6
   simp only [Option.some.injEq,Prod.mk.injEq] at H
   obtain ⟨rfl,rfl,rfl,rfl,rfl⟩:=H
   go_enter Tryd.func25,Tryd.ntmps25
   go_wp2_with (first|((with_reducible refine gate_dst (N:=2) rfl ?_);(try (refine gate_guard (by rfl) ?_;dsimp only));refine box_event ?hg (N:=2) ?hd (cs:=#[.string (⟨#[]⟩:ByteArray), .slice none 0 0, .bool false, .string (⟨#[]⟩:ByteArray)]) (t:=25) ?hr ?_;(case hd=>rfl);(case hg=>rfl);(case hr=>(go_simp <;> rfl));intro gb302 hg w7 hbox hb;have n0_:=Am (bT (by repeat (first|(with_reducible first|exact HB.out|apply bA|apply bN|apply bD)|exact HB.out)) hb);have n1_:=Am (hbox);have n2_:=Am ((by rw [hg];exact (bU (by repeat (first|(with_reducible first|exact HB.out|apply bA|apply bN|apply bD)|exact HB.out))):w.heap.size ≤ gb302));have n3_:=n2_;clear HB;have HB:=n0_;have BK302:=n1_;have GW302:=n2_;have GE302:=n3_;clear n0_ n1_ n2_ n3_ hb hbox hg)|((with_reducible refine gate_callee (f:=32) rfl ?_);refine goesL_ (some 9) rfl rfl Tryd.func32 (by kernel_rfl) rfl #[.string a0, .int .u8 35] rfl (aE2 rfl rfl) ?_;(with_reducible refine (spec_l1Cut.calls k a0 35 t303 t304 t305 _ A2.out).mono ?_);rintro e w' ⟨rfl,⟨nd,rfl⟩⟩;refine ⟨_,rfl,?_⟩;(try (rw [drewN_self w7];generalize hq_:World.drewN w7 _ = w7;have n0_:Aside0 (w7.heap[gb302]? = some (.cells #[.string (⟨#[]⟩:ByteArray), .slice none 0 0, .bool false, .string (⟨#[]⟩:ByteArray)] 25 (0,0))):=⟨by rw [← hq_];exact (bB BK302.out)⟩;have n1_:Aside0 (Below w.heap.size w w7):=⟨by rw [← hq_];exact (by repeat (first|(with_reducible first|exact HB.out|apply bA|apply bN|apply bD|refine bS ?_ GE302.out)|exact HB.out))⟩;clear BK302 HB hq_;have BK302:=n0_;have HB:=n1_;clear n0_ n1_));have hcz8_0:w7.cell? ⟨gb302,0,none⟩ = some (.string (⟨#[]⟩:ByteArray)):=bM BK302.out 0 rfl;have hcz8_1:w7.cell? ⟨gb302,1,none⟩ = some (.slice none 0 0):=bM BK302.out 1 rfl;have hcz8_2:w7.cell? ⟨gb302,2,none⟩ = some (.bool false):=bM BK302.out 2 rfl;have hcz8_3:w7.cell? ⟨gb302,3,none⟩ = some (.string (⟨#[]⟩:ByteArray)):=bM BK302.out 3 rfl;have hfz8_0:=bZ BK302.out 0;have hfz8_1:=bZ BK302.out 1;have hfz8_2:=bZ BK302.out 2;have hfz8_3:=bZ BK302.out 3))
   refine bodyPost_ret (results_ct rfl _ _ gb302 25 #[.string (⟨#[]⟩:ByteArray), .slice none 0 0, .bool false, .string (⟨#[]⟩:ByteArray)] (0,0) _ rfl (by refine bB ?_;apply bP;refine bB ?_;exact BK302.out) Tryd.underlying25 rfl (by kernel_rfl)) rfl ?_
   exact ⟨_,by first|rfl|(simp <;> rfl)|(simp [*] <;> rfl),by first|exact Kd.R_nil _ _ _ _ _|exact Kd.N_nil _ _ _ _ _|exact Kd.V_nil _ _ _ _ _|exact Kd.Q_nil _ _ _ _ _|exact Kd.S_nil _ _ _ _ _,by repeat (first|(with_reducible first|exact HB.out|apply bA|apply bN|apply bD|refine bS ?_ GE302.out)|exact HB.out)⟩
  ·rw [if_neg c6] at H
   have c6b0:decide ((t303.size:Int) < 2) = false:=decide_eq_false c6
   have c6b1:decide (t303.size < 2) = false:=decide_eq_false (by omega)
   clear c6
   by_cases c9:0 ≤ 2
   ·rw [if_pos c9] at H
    have c9b0:=eq_true c9
    have c9b1:=decide_eq_true c9
    clear c9
    by_cases c10:2 ≤ (t303.size:Int)
    ·rw [if_pos c10] at H
     have c10b0:=eq_true c10
     have c10b1:=decide_eq_true c10
     clear c10
     by_cases c11:(t303.extract 0 2).toList = ([47,47]:List UInt8)
     ·rw [if_pos c11] at H
      have c11b0:((t303.extract 0 2).toList == ([47,47]:List UInt8)) = true:=beq_iff_eq.mpr c11
      have c11b1:((t303.extract 0 2).toList != ([47,47]:List UInt8)) = false:=bne_eq_false_iff_eq.mpr c11
      clear c11
      have c12b0:=eq_true (oD (by assumption):2 ≤ (t303.size:Int))
      replace H:=bI H
      obtain ⟨⟨t306,t307,t310,t311,t312⟩,A130,H⟩:=H
      replace H:(some (t306,t307,t310,t311,t312)) = some (r1,r2,r3,r4,r5):=H
      have A13:=Am A130
      clear A130
      simp only [Option.some.injEq,Prod.mk.injEq] at H
      obtain ⟨rfl,rfl,rfl,rfl,rfl⟩:=H
      go_enter Tryd.func25,Tryd.ntmps25
      go_wp2_with (first|((with_reducible refine gate_dst (N:=2) rfl ?_);(try (refine gate_guard (by rfl) ?_;dsimp only));refine box_event ?hg (N:=2) ?hd (cs:=#[.string (⟨#[]⟩:ByteArray), .slice none 0 0, .bool false, .string (⟨#[]⟩:ByteArray)]) (t:=25) ?hr ?_;(case hd=>rfl);(case hg=>rfl);(case hr=>(go_simp <;> rfl));intro gb302 hg w14 hbox hb;have n0_:=Am (bT (by repeat (first|(with_reducible first|exact HB.out|apply bA|apply bN|apply bD)|exact HB.out)) hb);have n1_:=Am (hbox);have n2_:=Am ((by rw [hg];exact (bU (by repeat (first|(with_reducible first|exact HB.out|apply bA|apply bN|apply bD)|exact HB.out))):w.heap.size ≤ gb302));have n3_:=n2_;clear HB;have HB:=n0_;have BK302:=n1_;have GW302:=n2_;have GE302:=n3_;clear n0_ n1_ n2_ n3_ hb hbox hg)|((with_reducible refine gate_callee (f:=32) rfl ?_);refine goesL_ (some 9) rfl rfl Tryd.func32 (by kernel_rfl) rfl #[.string a0, .int .u8 35] rfl (aE2 rfl rfl) ?_;(with_reducible refine (spec_l1Cut.calls k a0 35 t303 t304 t305 _ A2.out).mono ?_);rintro e w' ⟨rfl,⟨nd,rfl⟩⟩;refine ⟨_,rfl,?_⟩;(try (rw [drewN_self w14];generalize hq_:World.drewN w14 _ = w14;have n0_:Aside0 (w14.heap[gb302]? = some (.cells #[.string (⟨#[]⟩:ByteArray), .slice none 0 0, .bool false, .string (⟨#[]⟩:ByteArray)] 25 (0,0))):=⟨by rw [← hq_];exact (bB BK302.out)⟩;have n1_:Aside0 (Below w.heap.size w w14):=⟨by rw [← hq_];exact (by repeat (first|(with_reducible first|exact HB.out|apply bA|apply bN|apply bD|refine bS ?_ GE302.out)|exact HB.out))⟩;clear BK302 HB hq_;have BK302:=n0_;have HB:=n1_;clear n0_ n1_)))|((with_reducible refine gate_callee (f:=33) rfl ?_);refine goesL_ (some 29) rfl rfl Tryd.func33 (by kernel_rfl) rfl #[.string (t303.extract 2 t303.size)] rfl (aE1 rfl) ?_;(with_reducible refine (spec_l1Whole.calls k (t303.extract 2 t303.size) t306 t307 t310 t311 t312 _ A13.out).mono ?_);rintro e w15 ⟨v308,rfl,ho0,hb⟩;refine ⟨_,rfl,?_⟩;have n0_:=Am (Kd.R_lower ho0 (bU (by repeat (first|(with_reducible first|exact HB.out|apply bA|apply bN|apply bD|refine bS ?_ GE302.out)|exact HB.out))));have n1_:=Am (blk_below (bB BK302.out) hb);have n2_:=Am (bT (by repeat (first|(with_reducible first|exact HB.out|apply bA|apply bN|apply bD|refine bS ?_ GE302.out)|exact HB.out)) hb);clear BK302 HB;have HO309:=n0_;have BK302:=n1_;have HB:=n2_;clear n0_ n1_ n2_;(try clear hb);(try clear ho0);have hcz16_0:w15.cell? ⟨gb302,0,none⟩ = some (.string (⟨#[]⟩:ByteArray)):=bM BK302.out 0 rfl;have hcz16_1:w15.cell? ⟨gb302,1,none⟩ = some (.slice none 0 0):=bM BK302.out 1 rfl;have hcz16_2:w15.cell? ⟨gb302,2,none⟩ = some (.bool false):=bM BK302.out 2 rfl;have hcz16_3:w15.cell? ⟨gb302,3,none⟩ = some (.string (⟨#[]⟩:ByteArray)):=bM BK302.out 3 rfl;have hfz16_0:=bZ BK302.out 0;have hfz16_1:=bZ BK302.out 1;have hfz16_2:=bZ BK302.out 2;have hfz16_3:=bZ BK302.out 3;obtain ⟨Ao17,co17,eo17⟩:=Kd.R_slice HO309.out;subst eo17))
      refine bodyPost_ret (results_ct rfl _ _ gb302 25 #[.string t306, .slice Ao17 t307.length co17, .bool t310, .string t311] (0,0) _ rfl (by refine bB ?_;apply bP;refine bB ?_;exact BK302.out) Tryd.underlying25 rfl (by kernel_rfl)) rfl ?_
      exact ⟨_,by first|rfl|(simp <;> rfl)|(simp [*] <;> rfl),by (with_reducible repeat (first|apply rA|apply rN|apply rD));exact Kd.R_mono (Kd.R_far (p:=⟨gb302,3,none⟩) (Kd.R_far (p:=⟨gb302,2,none⟩) (Kd.R_far (p:=⟨gb302,1,none⟩) (Kd.R_far (p:=⟨gb302,0,none⟩) (Kd.R_types HO309.out BK302.out (by decide)) (fun _ hk=>hk.2) (.string t306)) (fun _ hk=>hk.2) (.slice Ao17 t307.length co17)) (fun _ hk=>hk.2) (.bool t310)) (fun _ hk=>hk.2) (.string t311)) (fun _ hk=>trivial),by repeat (first|(with_reducible first|exact HB.out|apply bA|apply bN|apply bD|refine bS ?_ GE302.out)|exact HB.out)⟩
     ·rw [if_neg c11] at H
      have c11b0:((t303.extract 0 2).toList == ([47,47]:List UInt8)) = false:=beq_eq_false_iff_ne.mpr c11
      have c11b1:((t303.extract 0 2).toList != ([47,47]:List UInt8)) = true:=bne_iff_ne.mpr c11
      simp only [Option.some.injEq,Prod.mk.injEq] at H
      obtain ⟨rfl,rfl,rfl,rfl,rfl⟩:=H
      go_enter Tryd.func25,Tryd.ntmps25
      go_wp2_with (first|((with_reducible refine gate_dst (N:=2) rfl ?_);(try (refine gate_guard (by rfl) ?_;dsimp only));refine box_event ?hg (N:=2) ?hd (cs:=#[.string (⟨#[]⟩:ByteArray), .slice none 0 0, .bool false, .string (⟨#[]⟩:ByteArray)]) (t:=25) ?hr ?_;(case hd=>rfl);(case hg=>rfl);(case hr=>(go_simp <;> rfl));intro gb302 hg w18 hbox hb;have n0_:=Am (bT (by repeat (first|(with_reducible first|exact HB.out|apply bA|apply bN|apply bD)|exact HB.out)) hb);have n1_:=Am (hbox);have n2_:=Am ((by rw [hg];exact (bU (by repeat (first|(with_reducible first|exact HB.out|apply bA|apply bN|apply bD)|exact HB.out))):w.heap.size ≤ gb302));have n3_:=n2_;clear HB;have HB:=n0_;have BK302:=n1_;have GW302:=n2_;have GE302:=n3_;clear n0_ n1_ n2_ n3_ hb hbox hg)|((with_reducible refine gate_callee (f:=32) rfl ?_);refine goesL_ (some 9) rfl rfl Tryd.func32 (by kernel_rfl) rfl #[.string a0, .int .u8 35] rfl (aE2 rfl rfl) ?_;(with_reducible refine (spec_l1Cut.calls k a0 35 t303 t304 t305 _ A2.out).mono ?_);rintro e w' ⟨rfl,⟨nd,rfl⟩⟩;refine ⟨_,rfl,?_⟩;(try (rw [drewN_self w18];generalize hq_:World.drewN w18 _ = w18;have n0_:Aside0 (w18.heap[gb302]? = some (.cells #[.string (⟨#[]⟩:ByteArray), .slice none 0 0, .bool false, .string (⟨#[]⟩:ByteArray)] 25 (0,0))):=⟨by rw [← hq_];exact (bB BK302.out)⟩;have n1_:Aside0 (Below w.heap.size w w18):=⟨by rw [← hq_];exact (by repeat (first|(with_reducible first|exact HB.out|apply bA|apply bN|apply bD|refine bS ?_ GE302.out)|exact HB.out))⟩;clear BK302 HB hq_;have BK302:=n0_;have HB:=n1_;clear n0_ n1_));have hcz19_0:w18.cell? ⟨gb302,0,none⟩ = some (.string (⟨#[]⟩:ByteArray)):=bM BK302.out 0 rfl;have hcz19_1:w18.cell? ⟨gb302,1,none⟩ = some (.slice none 0 0):=bM BK302.out 1 rfl;have hcz19_2:w18.cell? ⟨gb302,2,none⟩ = some (.bool false):=bM BK302.out 2 rfl;have hcz19_3:w18.cell? ⟨gb302,3,none⟩ = some (.string (⟨#[]⟩:ByteArray)):=bM BK302.out 3 rfl;have hfz19_0:=bZ BK302.out 0;have hfz19_1:=bZ BK302.out 1;have hfz19_2:=bZ BK302.out 2;have hfz19_3:=bZ BK302.out 3))
      refine bodyPost_ret (results_ct rfl _ _ gb302 25 #[.string (⟨#[]⟩:ByteArray), .slice none 0 0, .bool false, .string (⟨#[]⟩:ByteArray)] (0,0) _ rfl (by refine bB ?_;apply bP;refine bB ?_;exact BK302.out) Tryd.underlying25 rfl (by kernel_rfl)) rfl ?_
      exact ⟨_,by first|rfl|(simp <;> rfl)|(simp [*] <;> rfl),by first|exact Kd.R_nil _ _ _ _ _|exact Kd.N_nil _ _ _ _ _|exact Kd.V_nil _ _ _ _ _|exact Kd.Q_nil _ _ _ _ _|exact Kd.S_nil _ _ _ _ _,by repeat (first|(with_reducible first|exact HB.out|apply bA|apply bN|apply bD|refine bS ?_ GE302.out)|exact HB.out)⟩
    ·rw [if_neg c10] at H
     exact absurd H (by simp)
   ·rw [if_neg c9] at H
    exact absurd H (by simp)

end Go.Proofs.YtbnnamjaljohiaaDoor.P
