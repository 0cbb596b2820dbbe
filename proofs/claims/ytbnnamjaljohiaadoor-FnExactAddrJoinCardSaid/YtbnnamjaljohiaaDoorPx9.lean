-- Written by a program of this session (patch_print.py over the kit's print; given texts in wip/given).
-- Cut down by a program of this session (wip/tools/prune.py) to what its claim can name.
import Derived.Test.YtbnnamjaljohiaaDoorSq
import Derived.Test.YtbnnamjaljohiaaDoorPx0
import Derived.Test.YtbnnamjaljohiaaDoorPx3
import Derived.Test.YtbnnamjaljohiaaDoorPx5
import Derived.Test.YtbnnamjaljohiaaDoorPx6
namespace Go.Proofs.YtbnnamjaljohiaaDoor.P
open Go.RowKit Go.Proofs.YtbnnamjaljohiaaDoorW.PrintWords Go.Proofs.YtbnnamjaljohiaaDoorW.PrintLast Go.Proofs.YtbnnamjaljohiaaDoorW.PrintMore
attribute [local go_sem] max2_int min2_int max_two min_two max_three min_three max_four min_four   -- for this text's walks alone
set_option linter.unusedVariables false
set_option linter.unusedSimpArgs false
set_option maxHeartbeats 8000000
set_option maxRecDepth 100000

def impl_AddrRead.f (k:Nat) (a0:ByteArray):Option (ByteArray × List ByteArray × Bool × ByteArray × Bool):=if (a0.size:Int) > 60 then (some ((⟨#[]⟩:ByteArray),([]:List ByteArray),false,(⟨#[]⟩:ByteArray),false)) else ((strings_Cut.f a0 (⟨#[35]⟩:ByteArray)).bind fun bt432=>((impl_readWhole.f k bt432.1).bind fun bt435=>(some (bt435.1,bt435.2.1,bt435.2.2.1,bt435.2.2.2.1,bt435.2.2.2.2))))
theorem impl_AddrRead.mono:∀ a0 k,LeO (impl_AddrRead.f k a0) (impl_AddrRead.f (k + 1) a0):=by
 intro a0 k
 unfold impl_AddrRead.f
 repeat' first
   | (with_reducible apply impl_readWhole.mono)
   | (with_reducible exact LeO.refl _)
   | (with_reducible exact LeO.none _)
   | (with_reducible refine LeO.ite ?_ ?_)
   | (with_reducible refine LeO.bind ?_ (fun _=>?_))
   | exact impl_readWhole.mono _ _
   | exact LeO.none _
   | refine LeO.ite ?_ ?_
   | refine LeO.bind ?_ (fun _=>?_)
theorem impl_AddrRead.calls (k:Nat) (a0:ByteArray) (r1:ByteArray) (r2:List ByteArray) (r3:Bool) (r4:ByteArray) (r5:Bool) (w:World) (h:impl_AddrRead.f k a0 = some (r1,r2,r3,r4,r5)) :
  Calls Tryd.prog 26 #[.string a0] w fun e w'=>∃ v1_:Value,e = .returned (.tuple #[.agg #[.string r1,v1_, .bool r3, .string r4], .bool r5]) ∧ Kd.R Kd.string 9 w' w.heap.size (fun _=>True) v1_ r2 ∧ Below w.heap.size w w':=by
 have hu25:=Tryd.underlying25
 have HB:=Am (Below.refl w.heap.size w)
 have H:(if (a0.size:Int) > 60 then (some ((⟨#[]⟩:ByteArray),([]:List ByteArray),false,(⟨#[]⟩:ByteArray),false)) else ((strings_Cut.f a0 (⟨#[35]⟩:ByteArray)).bind fun bt432=>((impl_readWhole.f k bt432.1).bind fun bt435=>(some (bt435.1,bt435.2.1,bt435.2.2.1,bt435.2.2.2.1,bt435.2.2.2.2))))) = some (r1,r2,r3,r4,r5):=h
 clear h
 by_cases c2:(a0.size:Int) > 60
 ·rw [if_pos c2] at H
  have c2b0:decide (60 < (a0.size:Int)) = true:=decide_eq_true c2
  have c2b1:decide (60 < a0.size) = true:=decide_eq_true (by omega)
  clear c2
  simp only [Option.some.injEq,Prod.mk.injEq] at H
  obtain ⟨rfl,rfl,rfl,rfl,rfl⟩:=H
  go_enter Tryd.func26,Tryd.ntmps26
  go_wp2_with (first|((with_reducible refine gate_dst (N:=2) rfl ?_);refine box_event ?hg (N:=2) ?hd (cs:=#[.string (⟨#[]⟩:ByteArray), .slice none 0 0, .bool false, .string (⟨#[]⟩:ByteArray)]) (t:=25) ?hr ?_;(case hd=>rfl);(case hg=>rfl);(case hr=>(go_simp <;> rfl));intro gb431 hg w3 hbox hb;have n0_:=Am (bT (by repeat (first|(with_reducible first|exact HB.out|apply bA|apply bN|apply bD)|exact HB.out)) hb);have n1_:=Am (hbox);have n2_:=Am ((by rw [hg];exact (bU (by repeat (first|(with_reducible first|exact HB.out|apply bA|apply bN|apply bD)|exact HB.out))):w.heap.size ≤ gb431));have n3_:=n2_;clear HB;have HB:=n0_;have BK431:=n1_;have GW431:=n2_;have GE431:=n3_;clear n0_ n1_ n2_ n3_ hb hbox hg;have hcz4_0:w3.cell? ⟨gb431,0,none⟩ = some (.string (⟨#[]⟩:ByteArray)):=bM BK431.out 0 rfl;have hcz4_1:w3.cell? ⟨gb431,1,none⟩ = some (.slice none 0 0):=bM BK431.out 1 rfl;have hcz4_2:w3.cell? ⟨gb431,2,none⟩ = some (.bool false):=bM BK431.out 2 rfl;have hcz4_3:w3.cell? ⟨gb431,3,none⟩ = some (.string (⟨#[]⟩:ByteArray)):=bM BK431.out 3 rfl;have hfz4_0:=bZ BK431.out 0;have hfz4_1:=bZ BK431.out 1;have hfz4_2:=bZ BK431.out 2;have hfz4_3:=bZ BK431.out 3))
  refine bodyPost_ret (results_ct rfl _ _ gb431 25 #[.string (⟨#[]⟩:ByteArray), .slice none 0 0, .bool false, .string (⟨#[]⟩:ByteArray)] (0,0) _ rfl (by refine bB ?_;apply bP;refine bB ?_;exact BK431.out) Tryd.underlying25 rfl (by kernel_rfl)) rfl ?_
  exact ⟨_,by first|rfl|(simp <;> rfl)|(simp [*] <;> rfl),by first|exact Kd.R_nil _ _ _ _ _|exact Kd.N_nil _ _ _ _ _|exact Kd.V_nil _ _ _ _ _|exact Kd.Q_nil _ _ _ _ _|exact Kd.S_nil _ _ _ _ _,by repeat (first|(with_reducible first|exact HB.out|apply bA|apply bN|apply bD|refine bS ?_ GE431.out)|exact HB.out)⟩
 ·rw [if_neg c2] at H
  have c2b0:decide (60 < (a0.size:Int)) = false:=decide_eq_false c2
  have c2b1:decide (60 < a0.size) = false:=decide_eq_false (by omega)
  clear c2
  replace H:=bI H
  obtain ⟨⟨t432,t433,t434⟩,A50,H⟩:=H
  replace H:((impl_readWhole.f k t432).bind fun bt435=>(some (bt435.1,bt435.2.1,bt435.2.2.1,bt435.2.2.2.1,bt435.2.2.2.2))) = some (r1,r2,r3,r4,r5):=H
  have A5:=Am A50
  clear A50
  replace H:=bI H
  obtain ⟨⟨t435,t436,t439,t440,t441⟩,A60,H⟩:=H
  replace H:(some (t435,t436,t439,t440,t441)) = some (r1,r2,r3,r4,r5):=H
  have A6:=Am A60
  clear A60
  simp only [Option.some.injEq,Prod.mk.injEq] at H
  obtain ⟨rfl,rfl,rfl,rfl,rfl⟩:=H
  go_enter Tryd.func26,Tryd.ntmps26
  go_wp2_with (first|((with_reducible refine gate_dst (N:=2) rfl ?_);refine box_event ?hg (N:=2) ?hd (cs:=#[.string (⟨#[]⟩:ByteArray), .slice none 0 0, .bool false, .string (⟨#[]⟩:ByteArray)]) (t:=25) ?hr ?_;(case hd=>rfl);(case hg=>rfl);(case hr=>(go_simp <;> rfl));intro gb431 hg w7 hbox hb;have n0_:=Am (bT (by repeat (first|(with_reducible first|exact HB.out|apply bA|apply bN|apply bD)|exact HB.out)) hb);have n1_:=Am (hbox);have n2_:=Am ((by rw [hg];exact (bU (by repeat (first|(with_reducible first|exact HB.out|apply bA|apply bN|apply bD)|exact HB.out))):w.heap.size ≤ gb431));have n3_:=n2_;clear HB;have HB:=n0_;have BK431:=n1_;have GW431:=n2_;have GE431:=n3_;clear n0_ n1_ n2_ n3_ hb hbox hg)|((with_reducible refine gate_callee (f:=36) rfl ?_);refine goesL_ (some 13) rfl rfl Tryd.func36 (by kernel_rfl) rfl #[.string a0, .string (⟨#[35]⟩:ByteArray)] rfl (aE2 rfl rfl) ?_;(with_reducible refine (strings_Cut.calls a0 (⟨#[35]⟩:ByteArray) t432 t433 t434 _ A5.out).mono ?_);rintro e w' ⟨rfl,⟨nd,rfl⟩⟩;refine ⟨_,rfl,?_⟩;(try (rw [drewN_self w7];generalize hq_:World.drewN w7 _ = w7;have n0_:Aside0 (w7.heap[gb431]? = some (.cells #[.string (⟨#[]⟩:ByteArray), .slice none 0 0, .bool false, .string (⟨#[]⟩:ByteArray)] 25 (0,0))):=⟨by rw [← hq_];exact (bB BK431.out)⟩;have n1_:Aside0 (Below w.heap.size w w7):=⟨by rw [← hq_];exact (by repeat (first|(with_reducible first|exact HB.out|apply bA|apply bN|apply bD|refine bS ?_ GE431.out)|exact HB.out))⟩;clear BK431 HB hq_;have BK431:=n0_;have HB:=n1_;clear n0_ n1_)))|((with_reducible refine gate_callee (f:=38) rfl ?_);refine goesL_ (some 18) rfl rfl Tryd.func38 (by kernel_rfl) rfl #[.string t432] rfl (aE1 rfl) ?_;(with_reducible refine (impl_readWhole.calls k t432 t435 t436 t439 t440 t441 _ A6.out).mono ?_);rintro e w8 ⟨v437,rfl,ho0,hb⟩;refine ⟨_,rfl,?_⟩;have n0_:=Am (Kd.R_lower ho0 (bU (by repeat (first|(with_reducible first|exact HB.out|apply bA|apply bN|apply bD|refine bS ?_ GE431.out)|exact HB.out))));have n1_:=Am (blk_below (bB BK431.out) hb);have n2_:=Am (bT (by repeat (first|(with_reducible first|exact HB.out|apply bA|apply bN|apply bD|refine bS ?_ GE431.out)|exact HB.out)) hb);clear BK431 HB;have HO438:=n0_;have BK431:=n1_;have HB:=n2_;clear n0_ n1_ n2_;(try clear hb);(try clear ho0);have hcz9_0:w8.cell? ⟨gb431,0,none⟩ = some (.string (⟨#[]⟩:ByteArray)):=bM BK431.out 0 rfl;have hcz9_1:w8.cell? ⟨gb431,1,none⟩ = some (.slice none 0 0):=bM BK431.out 1 rfl;have hcz9_2:w8.cell? ⟨gb431,2,none⟩ = some (.bool false):=bM BK431.out 2 rfl;have hcz9_3:w8.cell? ⟨gb431,3,none⟩ = some (.string (⟨#[]⟩:ByteArray)):=bM BK431.out 3 rfl;have hfz9_0:=bZ BK431.out 0;have hfz9_1:=bZ BK431.out 1;have hfz9_2:=bZ BK431.out 2;have hfz9_3:=bZ BK431.out 3;obtain ⟨Ao10,co10,eo10⟩:=Kd.R_slice HO438.out;subst eo10))
  refine bodyPost_ret (results_ct rfl _ _ gb431 25 #[.string t435, .slice Ao10 t436.length co10, .bool t439, .string t440] (0,0) _ rfl (by refine bB ?_;apply bP;refine bB ?_;exact BK431.out) Tryd.underlying25 rfl (by kernel_rfl)) rfl ?_
  exact ⟨_,by first|rfl|(simp <;> rfl)|(simp [*] <;> rfl),by (with_reducible repeat (first|apply rA|apply rN|apply rD));exact Kd.R_mono (Kd.R_far (p:=⟨gb431,3,none⟩) (Kd.R_far (p:=⟨gb431,2,none⟩) (Kd.R_far (p:=⟨gb431,1,none⟩) (Kd.R_far (p:=⟨gb431,0,none⟩) (Kd.R_types HO438.out BK431.out (by decide)) (fun _ hk=>hk.2) (.string t435)) (fun _ hk=>hk.2) (.slice Ao10 t436.length co10)) (fun _ hk=>hk.2) (.bool t439)) (fun _ hk=>hk.2) (.string t440)) (fun _ hk=>trivial),by repeat (first|(with_reducible first|exact HB.out|apply bA|apply bN|apply bD|refine bS ?_ GE431.out)|exact HB.out)⟩

end Go.Proofs.YtbnnamjaljohiaaDoor.P
