-- Written by a program of this session (patch_print.py over the kit's print; given texts in wip/given).
-- Cut down by a program of this session (wip/tools/prune.py) to what its claim can name.
import Derived.Test.YtochmlkladpfgaaDoorPx0
import Derived.Test.YtochmlkladpfgaaDoorPx2
import Derived.Test.YtochmlkladpfgaaDoorPx3
namespace Go.Proofs.YtochmlkladpfgaaDoor.P
open Go.RowKit Go.Proofs.YtochmlkladpfgaaDoorW.PrintWords Go.Proofs.YtochmlkladpfgaaDoorW.PrintLast Go.Proofs.YtochmlkladpfgaaDoorW.PrintMore
attribute [local go_sem] max2_int min2_int max_two min_two max_three min_three max_four min_four   -- for this text's walks alone
set_option linter.unusedVariables false
set_option linter.unusedSimpArgs false
set_option maxHeartbeats 8000000
set_option maxRecDepth 100000

/-! ### spec_l1Way: function 38 -/
def spec_l1Way.l0:Nat → ByteArray → Bool → List ByteArray → List ByteArray → Int → ByteArray → List ByteArray → Bool → ByteArray → Option (ByteArray × List ByteArray × Bool × ByteArray × Bool)
 | 0,_,_,_,_,_,_,_,_,_=>none
 | k + 1,x6,x7,x8,x9,x10,x246000,x246001,x246002,x246003=>if x10 < (x9.length:Int) then (if 0 ≤ x10 then ((spec_EscNorm.f k (rdOf ByteArray.empty x9 x10)).bind fun bt260=>(if bt260.2 = true then (if x8.length < 8796093022208 then (spec_l1Way.l0 k x6 x7 (x8 ++ [bt260.1]) x9 (wrap64 (x10 + 1)) x246000 x246001 x246002 x246003) else (none)) else (some ((⟨#[]⟩:ByteArray),([]:List ByteArray),false,(⟨#[]⟩:ByteArray),false)))) else (none)) else ((spec_EscNorm.f k x6).bind fun bt265=>((spec_PathClean.f k x8).bind fun t267=>(if bt265.2 = true then ((spec_AddrOk.f k x246000 t267 x7 bt265.1).bind fun t271=>(if t271 = true then (some (x246000,t267,x7,bt265.1,true)) else (some ((⟨#[]⟩:ByteArray),([]:List ByteArray),false,(⟨#[]⟩:ByteArray),false)))) else (some ((⟨#[]⟩:ByteArray),([]:List ByteArray),false,(⟨#[]⟩:ByteArray),false)))))
def spec_l1Way.f (k:Nat) (a0_0:ByteArray) (l0_1:List ByteArray) (a0_2:Bool) (a0_3:ByteArray) (a1:ByteArray):Option (ByteArray × List ByteArray × Bool × ByteArray × Bool):=(spec_l1Cut.f k a1 63).bind fun bt247=>((some (([]:List ByteArray):List ByteArray)).bind fun y250=>(if y250.length + l0_1.length < 8796093022208 then ((spec_l1Split.f k bt247.1 47).bind fun t256=>(spec_l1Way.l0 k bt247.2.1 bt247.2.2 (y250 ++ l0_1) t256 0 a0_0 l0_1 a0_2 a0_3)) else (none)))
theorem spec_l1Way.mono_l:∀ k,(∀ y0 y1 y2 y3 y4 y5 y6 y7 y8,LeO (spec_l1Way.l0 k y0 y1 y2 y3 y4 y5 y6 y7 y8) (spec_l1Way.l0 (k + 1) y0 y1 y2 y3 y4 y5 y6 y7 y8))
 | 0=>fun _ _ _ _ _ _ _ _ _ r h=>by simp [spec_l1Way.l0] at h
 | k + 1=>by
  have ih0:=spec_l1Way.mono_l k
  ·intro y0 y1 y2 y3 y4 y5 y6 y7 y8
   unfold spec_l1Way.l0
   repeat' first
   | (with_reducible exact ih0 _ _ _ _ _ _ _ _ _)
   | (with_reducible exact spec_AddrOk.mono _ _ _ _ _)
   | (with_reducible exact spec_EscNorm.mono _ _)
   | (with_reducible exact spec_PathClean.mono _ _)
   | (with_reducible exact spec_l1Cut.mono _ _ _)
   | (with_reducible exact spec_l1Split.mono _ _ _)
   | (with_reducible exact LeO.refl _)
   | (with_reducible exact LeO.none _)
   | (with_reducible refine LeO.ite ?_ ?_)
   | (with_reducible refine LeO.bind ?_ (fun _=>?_))
   | exact ih0 _ _ _ _ _ _ _ _ _
   | exact spec_AddrOk.mono _ _ _ _ _
   | exact spec_EscNorm.mono _ _
   | exact spec_PathClean.mono _ _
   | exact spec_l1Cut.mono _ _ _
   | exact spec_l1Split.mono _ _ _
   | exact LeO.none _
   | refine LeO.ite ?_ ?_
   | refine LeO.bind ?_ (fun _=>?_)
theorem spec_l1Way.mono:∀ a0 a1 a2 a3 a4 k,LeO (spec_l1Way.f k a0 a1 a2 a3 a4) (spec_l1Way.f (k + 1) a0 a1 a2 a3 a4):=by
 intro a0 a1 a2 a3 a4 k
 have ih0:=spec_l1Way.mono_l k
 unfold spec_l1Way.f
 repeat' first
   | (with_reducible exact ih0 _ _ _ _ _ _ _ _ _)
   | (with_reducible exact spec_AddrOk.mono _ _ _ _ _)
   | (with_reducible exact spec_EscNorm.mono _ _)
   | (with_reducible exact spec_PathClean.mono _ _)
   | (with_reducible exact spec_l1Cut.mono _ _ _)
   | (with_reducible exact spec_l1Split.mono _ _ _)
   | (with_reducible exact LeO.refl _)
   | (with_reducible exact LeO.none _)
   | (with_reducible refine LeO.ite ?_ ?_)
   | (with_reducible refine LeO.bind ?_ (fun _=>?_))
   | exact ih0 _ _ _ _ _ _ _ _ _
   | exact spec_AddrOk.mono _ _ _ _ _
   | exact spec_EscNorm.mono _ _
   | exact spec_PathClean.mono _ _
   | exact spec_l1Cut.mono _ _ _
   | exact spec_l1Split.mono _ _ _
   | exact LeO.none _
   | refine LeO.ite ?_ ?_
   | refine LeO.bind ?_ (fun _=>?_)
def spec_l1Way.T12:Bool × List (List Nat × List Nat):=(true,[([],[]),([0],[0]),([],[]),([2],[2]),([],[]),([],[]),([1,3,4,5],[1,3,4,5]),([],[]),([7,6,3,0,1,2,3,4,5,6,7],[6,7])])
def spec_l1Way.B12:List Nat:=[0,1,0,4,0,0,63,0,255]
theorem spec_l1Way.tab12:rtab .any (opsOf Tryd.f38 12) = spec_l1Way.T12:=by kernel_rfl
theorem spec_l1Way.bits12:waitsOk spec_l1Way.T12.2 spec_l1Way.B12 = true:=by kernel_rfl
theorem spec_l1Way.calls (k:Nat) (a0_0:ByteArray) (A0_1:Option Addr) (c0_1:Nat) (l0_1:List ByteArray) (a0_2:Bool) (a0_3:ByteArray) (a1:ByteArray) (r1:ByteArray) (r2:List ByteArray) (r3:Bool) (r4:ByteArray) (r5:Bool) (w:World) (hr0_1:Kd.C Kd.string w A0_1 l0_1.length l0_1) (hc0_1:l0_1.length ≤ c0_1) (h:spec_l1Way.f k a0_0 l0_1 a0_2 a0_3 a1 = some (r1,r2,r3,r4,r5)) :
  Calls Tryd.prog 38 #[.agg #[.string a0_0, .slice A0_1 l0_1.length c0_1, .bool a0_2, .string a0_3], .string a1] w fun e w'=>∃ v1_:Value,e = .returned (.tuple #[.agg #[.string r1,v1_, .bool r3, .string r4], .bool r5]) ∧ Kd.R Kd.string 9 w' w.heap.size (fun _=>True) v1_ r2 ∧ Below w.heap.size w w':=by
 have hu24:=Tryd.underlying24
 have HR0_1:=Aside0.mk hr0_1
 have HC0_1:=Aside0.mk hc0_1
 clear hr0_1 hc0_1
 have HB:=Aside0.mk (Below.refl w.heap.size w)
 have H:((spec_l1Cut.f k a1 63).bind fun bt247=>((some (([]:List ByteArray):List ByteArray)).bind fun y250=>(if y250.length + l0_1.length < 8796093022208 then ((spec_l1Split.f k bt247.1 47).bind fun t256=>(spec_l1Way.l0 k bt247.2.1 bt247.2.2 (y250 ++ l0_1) t256 0 a0_0 l0_1 a0_2 a0_3)) else (none)))) = some (r1,r2,r3,r4,r5):=h
 clear h
 replace H:=Option.bind_eq_some_iff.mp H
 obtain ⟨⟨t247,t248,t249⟩,A30,H⟩:=H
 replace H:((some (([]:List ByteArray):List ByteArray)).bind fun y250=>(if y250.length + l0_1.length < 8796093022208 then ((spec_l1Split.f k t247 47).bind fun t256=>(spec_l1Way.l0 k t248 t249 (y250 ++ l0_1) t256 0 a0_0 l0_1 a0_2 a0_3)) else (none))) = some (r1,r2,r3,r4,r5):=H
 have A3:=Aside0.mk A30
 clear A30
 obtain ⟨y250,hy250⟩:∃ y_:List ByteArray,y_ = (([]:List ByteArray)):=⟨_,rfl⟩
 replace H:(if y250.length + l0_1.length < 8796093022208 then ((spec_l1Split.f k t247 47).bind fun t256=>(spec_l1Way.l0 k t248 t249 (y250 ++ l0_1) t256 0 a0_0 l0_1 a0_2 a0_3)) else (none)) = some (r1,r2,r3,r4,r5):=by first|(rw [hy250];with_reducible exact H)|(have H2_:=(Option.bind_some _ _).symm.trans H;rw [hy250];with_reducible exact H2_)|(have H2_:=(Option.bind_some _ _).symm.trans H;with_reducible exact H2_)|with_reducible exact H|(rw [hy250];exact H)|exact H
 have Ny250:=Aside0.mk hy250
 clear hy250
 by_cases c4:y250.length + l0_1.length < 8796093022208
 ·rw [if_pos c4] at H
  have LMc4:=Aside0.mk c4
  clear c4
  obtain ⟨y253,hy253⟩:∃ y_:List ByteArray,y_ = (y250 ++ l0_1):=⟨_,rfl⟩
  replace H:((spec_l1Split.f k t247 47).bind fun t256=>(spec_l1Way.l0 k t248 t249 y253 t256 0 a0_0 l0_1 a0_2 a0_3)) = some (r1,r2,r3,r4,r5):=by first|(rw [hy253];with_reducible exact H)|(have H2_:=(Option.bind_some _ _).symm.trans H;rw [hy253];with_reducible exact H2_)|(have H2_:=(Option.bind_some _ _).symm.trans H;with_reducible exact H2_)|with_reducible exact H|(rw [hy253];exact H)|exact H
  have Ny253:=Aside0.mk hy253
  clear hy253
  replace H:=Option.bind_eq_some_iff.mp H
  obtain ⟨t256,A50,H⟩:=H
  replace H:(spec_l1Way.l0 k t248 t249 y253 t256 0 a0_0 l0_1 a0_2 a0_3) = some (r1,r2,r3,r4,r5):=H
  have A5:=Aside0.mk A50
  clear A50
  have H':=Aside0.mk H
  clear H
  go_enter Tryd.func38,Tryd.ntmps38
  go_wp2_with (first|((with_reducible refine gate_dst (N:=2) rfl ?_);refine box_event ?hg (N:=2) ?hd (cs:=#[.string a0_0, .slice A0_1 l0_1.length c0_1, .bool a0_2, .string a0_3]) (t:=24) ?hr ?_;(case hd=>rfl);(case hg=>rfl);(case hr=>first|(go_simp;done)|(go_simp;rfl));intro gb245 hg w6 hbox hb;have n0_:=Aside0.mk (below_step (by repeat (first|(with_reducible first|exact HB.out|apply below_alloc|apply pw_below_drewN|apply below_drew1)|exact HB.out)) hb);have n1_:=Aside0.mk (hbox);have n2_:=Aside0.mk ((by rw [hg];exact (below_size (by repeat (first|(with_reducible first|exact HB.out|apply below_alloc|apply pw_below_drewN|apply below_drew1)|exact HB.out))):w.heap.size ≤ gb245));have n3_:=n2_;clear HB;have HB:=n0_;have BK245:=n1_;have GW245:=n2_;have GE245:=n3_;clear n0_ n1_ n2_ n3_;clear hb hbox hg)|((with_reducible refine gate_dst (N:=4) rfl ?_);refine box_event ?hg (N:=4) ?hd (cs:=#[.string (⟨#[]⟩:ByteArray), .slice none 0 0, .bool false, .string (⟨#[]⟩:ByteArray)]) (t:=24) ?hr ?_;(case hd=>rfl);(case hg=>rfl);(case hr=>first|(go_simp;done)|(go_simp;rfl));intro gb246 hg w7 hbox hb;have n0_:=Aside0.mk (blk_below (g:=gb245) (o:=.cells #[.string a0_0, .slice A0_1 l0_1.length c0_1, .bool a0_2, .string a0_3] 24 (0,0)) (by (with_reducible repeat (first|refine blk_drewN ?_ _|refine blk_drew ?_|refine blk_alloc ?_ _));exact BK245.out) hb);have n1_:=Aside0.mk (below_step (by repeat (first|(with_reducible first|exact HB.out|apply below_alloc|apply pw_below_drewN|apply below_drew1|refine below_set ?_ GE245.out)|exact HB.out)) hb);have n2_:=Aside0.mk (hbox);have n3_:=Aside0.mk ((by rw [hg];exact (below_size (by repeat (first|(with_reducible first|exact HB.out|apply below_alloc|apply pw_below_drewN|apply below_drew1|refine below_set ?_ GE245.out)|exact HB.out))):w.heap.size ≤ gb246));have n4_:=n3_;have n5_:=Aside0.mk ((by rw [hg];exact Nat.ne_of_lt (blk_lt (g:=gb245) (o:=.cells #[.string a0_0, .slice A0_1 l0_1.length c0_1, .bool a0_2, .string a0_3] 24 (0,0)) (by (with_reducible repeat (first|refine blk_drewN ?_ _|refine blk_drew ?_|refine blk_alloc ?_ _));exact BK245.out)):gb245 ≠ gb246));have n6_:=Aside0.mk ((by rw [hg];exact Nat.ne_of_gt (blk_lt (g:=gb245) (o:=.cells #[.string a0_0, .slice A0_1 l0_1.length c0_1, .bool a0_2, .string a0_3] 24 (0,0)) (by (with_reducible repeat (first|refine blk_drewN ?_ _|refine blk_drew ?_|refine blk_alloc ?_ _));exact BK245.out)):gb246 ≠ gb245));clear BK245;clear HB;have BK245:=n0_;have HB:=n1_;have BK246:=n2_;have GW246:=n3_;have GE246:=n4_;have NB245_246:=n5_;have NB246_245:=n6_;clear n0_ n1_ n2_ n3_ n4_ n5_ n6_;clear hb hbox hg)|((with_reducible refine gate_callee (f:=19) rfl ?_);refine goesL_ (some 18) rfl rfl Tryd.func19 (by kernel_rfl) rfl #[.string a1, .int .u8 63] rfl (by (try simp only [List.map_toArray,List.map_cons,List.map_nil]);first|done|rfl|(simp only [List.length_drop,List.length_take];rfl)) ?_;(with_reducible refine (spec_l1Cut.calls k a1 63 t247 t248 t249 _ A3.out).mono ?_);rintro e w' ⟨rfl,⟨nd,rfl⟩⟩;refine ⟨_,rfl,?_⟩)|((with_reducible refine gate_dst (N:=22) rfl ?_);refine Kd.R_lit Kd.string _ 9 ?hg (N:=22) ?hd (xs:=([]:List ByteArray)) (inner:=[]) (ok:=fun _=>True) (okp:=fun _=>True) ?hr ?hp (fun _ hk=>hk) trivial (Below.refl _ _) (Nat.le_refl _) (by simp) ?_;(case hd=>rfl);(case hg=>rfl);(case hr=>first|(go_simp;done)|(go_simp;rfl));(case hp=>exact (Reps.none _ _));intro v251 w8 ho9 hb hg_ hnew_;clear hg_ hnew_;(first|rw [← Ny250.out] at ho9|(simp only [Int.reduceToNat] at ho9;rw [← Ny250.out] at ho9));have n0_:=Aside0.mk (Kd.R_lower ho9 (below_size (by repeat (first|(with_reducible first|exact HB.out|apply below_alloc|apply pw_below_drewN|apply below_drew1|refine below_set ?_ GE245.out|refine below_set ?_ GE246.out)|exact HB.out))));have n1_:=Aside0.mk (blk_below (g:=gb245) (o:=.cells #[.string a0_0, .slice A0_1 l0_1.length c0_1, .bool a0_2, .string a0_3] 24 (0,0)) (by (with_reducible repeat (first|refine blk_drewN ?_ _|refine blk_drew ?_|refine blk_alloc ?_ _));exact BK245.out) hb);have n2_:=Aside0.mk (blk_below (g:=gb246) (o:=.cells #[.string (⟨#[]⟩:ByteArray), .slice none 0 0, .bool false, .string (⟨#[]⟩:ByteArray)] 24 (0,0)) (by (with_reducible repeat (first|refine blk_drewN ?_ _|refine blk_drew ?_|refine blk_alloc ?_ _));exact BK246.out) hb);have n3_:=Aside0.mk (below_step (by repeat (first|(with_reducible first|exact HB.out|apply below_alloc|apply pw_below_drewN|apply below_drew1|refine below_set ?_ GE245.out|refine below_set ?_ GE246.out)|exact HB.out)) hb);clear BK245;clear BK246;clear HB;have HO252:=n0_;have BK245:=n1_;have BK246:=n2_;have HB:=n3_;clear n0_ n1_ n2_ n3_;clear hb ho9;have hnb10:=NB245_246.out;have hnc10:=NB246_245.out;have hcz11_0:w8.cell? ⟨gb245,0,none⟩ = some (.string a0_0):=(blk_cell BK245.out 0).trans rfl;have hcz11_1:w8.cell? ⟨gb245,1,none⟩ = some (.slice A0_1 l0_1.length c0_1):=(blk_cell BK245.out 1).trans rfl;have hcz11_2:w8.cell? ⟨gb245,2,none⟩ = some (.bool a0_2):=(blk_cell BK245.out 2).trans rfl;have hcz11_3:w8.cell? ⟨gb245,3,none⟩ = some (.string a0_3):=(blk_cell BK245.out 3).trans rfl;have hfz11_0:=blk_frozen BK245.out 0;have hfz11_1:=blk_frozen BK245.out 1;have hfz11_2:=blk_frozen BK245.out 2;have hfz11_3:=blk_frozen BK245.out 3)|((with_reducible refine gate_builtin (b:=.append) (xs:=#[.tmp 22, .tmp 24]) rfl ?_);at_builtin;refine Kd.R_append_rows Kd.string (w0:=w) w.heap.size rfl (.tmp 22) (.tmp 24) 22 9 (.string ⟨#[]⟩) 16 rfl Tryd.underlying22 info9 rfl (by decide) (by omega) v251 y250 l0_1 _ _ _ (fun _=>True) (fun _=>False) rfl rfl ?aO ?aR (fun _ _ h=>h) (fun _ h=>h.elim) ?aF ?aB ?aS ?aL ?_;(case aR=>repeat (first|exact (Kd.C_below HR0_1.out HB.out)|(with_reducible refine Kd.C_alloc ?_ _)|(with_reducible refine Kd.C_drewN ?_ _)|(with_reducible refine Kd.C_drew ?_)));(case aB=>exact (by repeat (first|(with_reducible first|exact HB.out|apply below_alloc|apply pw_below_drewN|apply below_drew1|refine below_set ?_ GE245.out|refine below_set ?_ GE246.out)|exact HB.out)));(case aF=>exact (fun _ _=>trivial));(case aO=>exact (by (with_reducible repeat (first|apply Kd.R_alloc|apply Kd.R_drewN|apply Kd.R_drew));exact HO252.out));(case aS=>exact (below_size (by repeat (first|(with_reducible first|exact HB.out|apply below_alloc|apply pw_below_drewN|apply below_drew1|refine below_set ?_ GE245.out|refine below_set ?_ GE246.out)|exact HB.out))));(case aL=>have:=LMc4.out;omega);intro v254 w12 ho hb hg hat;rw [← Ny253.out] at ho;have n0_:=Aside0.mk (blk_grown (g:=gb245) (o:=.cells #[.string a0_0, .slice A0_1 l0_1.length c0_1, .bool a0_2, .string a0_3] 24 (0,0)) (by (with_reducible repeat (first|refine blk_drewN ?_ _|refine blk_drew ?_|refine blk_alloc ?_ _));exact BK245.out) hg (Kd.R_ne HO252.out BK245.out (by decide)));have n1_:=Aside0.mk (blk_grown (g:=gb246) (o:=.cells #[.string (⟨#[]⟩:ByteArray), .slice none 0 0, .bool false, .string (⟨#[]⟩:ByteArray)] 24 (0,0)) (by (with_reducible repeat (first|refine blk_drewN ?_ _|refine blk_drew ?_|refine blk_alloc ?_ _));exact BK246.out) hg (Kd.R_ne HO252.out BK246.out (by decide)));have n2_:=Aside0.mk (hb);have n3_:=Aside0.mk (ho);clear BK245;clear BK246;clear HB;clear HO252;have BK245:=n0_;have BK246:=n1_;have HB:=n2_;have HO255:=n3_;clear n0_ n1_ n2_ n3_;clear ho hb hg hat)|((with_reducible refine gate_callee (f:=53) rfl ?_);refine goesL_ (some 27) rfl rfl Tryd.func53 (by kernel_rfl) rfl #[.string t247, .int .u8 47] rfl (by (try simp only [List.map_toArray,List.map_cons,List.map_nil]);first|done|rfl|(simp only [List.length_drop,List.length_take];rfl)) ?_;(with_reducible refine (spec_l1Split.calls k t247 47 t256 _ A5.out).mono ?_);rintro e w13 ⟨v257,rfl,ho0,hb⟩;refine ⟨_,rfl,?_⟩;have n0_:=Aside0.mk (Kd.R_elder' (by (with_reducible repeat (first|apply Kd.R_alloc|apply Kd.R_drewN|apply Kd.R_drew));exact HO255.out) (Kd.R_base ho0) hb);have n1_:=Aside0.mk (Kd.R_lower (Kd.R_new' ho0 (Kd.R_lt (by (with_reducible repeat (first|apply Kd.R_alloc|apply Kd.R_drewN|apply Kd.R_drew));exact HO255.out))) (below_size (by repeat (first|(with_reducible first|exact HB.out|apply below_alloc|apply pw_below_drewN|apply below_drew1|refine below_set ?_ GE245.out|refine below_set ?_ GE246.out)|exact HB.out))));have n2_:=Aside0.mk (blk_below (g:=gb245) (o:=.cells #[.string a0_0, .slice A0_1 l0_1.length c0_1, .bool a0_2, .string a0_3] 24 (0,0)) (by (with_reducible repeat (first|refine blk_drewN ?_ _|refine blk_drew ?_|refine blk_alloc ?_ _));exact BK245.out) hb);have n3_:=Aside0.mk (blk_below (g:=gb246) (o:=.cells #[.string (⟨#[]⟩:ByteArray), .slice none 0 0, .bool false, .string (⟨#[]⟩:ByteArray)] 24 (0,0)) (by (with_reducible repeat (first|refine blk_drewN ?_ _|refine blk_drew ?_|refine blk_alloc ?_ _));exact BK246.out) hb);have n4_:=Aside0.mk (below_step (by repeat (first|(with_reducible first|exact HB.out|apply below_alloc|apply pw_below_drewN|apply below_drew1|refine below_set ?_ GE245.out|refine below_set ?_ GE246.out)|exact HB.out)) hb);clear HO255;clear BK245;clear BK246;clear HB;have HO255:=n0_;have HO258:=n1_;have BK245:=n2_;have BK246:=n3_;have HB:=n4_;clear n0_ n1_ n2_ n3_ n4_;(try clear hb);(try clear hb2);(try clear hk);(try clear hi);(try clear ho0)))
  go_loopg [8,10] k (fun kq v8 v10 w'=>∃ (x8_1:List ByteArray) (x10_1:Int) (x247000_1:ByteArray) (x247002_1:Bool) (x247003_1:ByteArray),v10 = .int .i64 x10_1 ∧ Aside0 (spec_l1Way.l0 kq t248 t249 x8_1 t256 x10_1 a0_0 l0_1 a0_2 a0_3 = some (r1,r2,r3,r4,r5)) ∧ Aside0 (kq ≤ k) ∧ Aside0 (Kd.R Kd.string 9 w' w.heap.size (fun k_=>some k_ ≠ (v257:Value).ownBlock) v8 x8_1) ∧ Aside0 (Kd.R Kd.string 9 w' w.heap.size (fun k_=>some k_ ≠ (v8:Value).ownBlock) v257 t256) ∧ Aside0 (w'.heap[gb245]? = some (.cells #[.string a0_0,(.slice A0_1 l0_1.length c0_1), .bool a0_2, .string a0_3] 24 (0,0))) ∧ Aside0 (w'.heap[gb246]? = some (.cells #[.string x247000_1,(.slice none 0 0), .bool x247002_1, .string x247003_1] 24 (0,0))) ∧ Aside0 (Below w.heap.size w w'))
  case atStart=>exact ⟨(y253),(0),((⟨#[]⟩:ByteArray)),(false),((⟨#[]⟩:ByteArray)),(by first|rfl|(simp;done)|(simp only [i64_w,i32_w];done)|(simp only [i64_w,i32_w];rfl)|(simp [*];done)|(simp [emp_bne,emp_beq];done)),H',⟨Nat.le_refl _⟩,⟨by (with_reducible repeat (first|apply Kd.R_alloc|apply Kd.R_drewN|apply Kd.R_drew));exact Kd.R_mono HO255.out (fun _ hk=>hk.2)⟩,⟨by (with_reducible repeat (first|apply Kd.R_alloc|apply Kd.R_drewN|apply Kd.R_drew));exact Kd.R_mono HO258.out (fun _ hk=>hk.2)⟩,⟨by (with_reducible repeat (first|refine blk_drewN ?_ _|refine blk_drew ?_|refine blk_alloc ?_ _));exact BK245.out⟩,⟨by (with_reducible repeat (first|refine blk_drewN ?_ _|refine blk_drew ?_|refine blk_alloc ?_ _));exact BK246.out⟩,⟨by repeat (first|(with_reducible first|exact HB.out|apply below_alloc|apply pw_below_drewN|apply below_drew1|refine below_set ?_ GE245.out|refine below_set ?_ GE246.out)|exact HB.out)⟩⟩
  case round =>
   clear H'
   try clear c1
   try clear p2
   try clear c3
   try clear c4
   try clear c5
   try clear c10
   try clear hcz11_0
   try clear hcz11_1
   try clear hcz11_2
   try clear hcz11_3
   try clear hfz11_0
   try clear hfz11_1
   try clear hfz11_2
   try clear hfz11_3
   obtain ⟨x8_1,x10_1,x247000_1,x247002_1,x247003_1,rfl,HA,HK1,HO_8,HO_9,BK245,BK246,HB⟩:=hrel
   cases gk with
   | zero=>exact absurd HA.out (by simp [spec_l1Way.l0])
   | succ k1 =>
    have H:=HA.out
    clear HA
    simp only [spec_l1Way.l0] at H
    by_cases c14:x10_1 < (t256.length:Int)
    ·rw [if_pos c14] at H
     have c14b0:decide (x10_1 < (t256.length:Int)) = true:=decide_eq_true c14
     clear c14
     by_cases c15:0 ≤ x10_1
     ·rw [if_pos c15] at H
      have c15b0:decide (0 ≤ x10_1) = true:=decide_eq_true c15
      clear c15
      replace H:=Option.bind_eq_some_iff.mp H
      obtain ⟨⟨t260,t261⟩,A160,H⟩:=H
      replace H:(if t261 = true then (if x8_1.length < 8796093022208 then (spec_l1Way.l0 k1 t248 t249 (x8_1 ++ [t260]) t256 (wrap64 (x10_1 + 1)) a0_0 l0_1 a0_2 a0_3) else (none)) else (some ((⟨#[]⟩:ByteArray),([]:List ByteArray),false,(⟨#[]⟩:ByteArray),false))) = some (r1,r2,r3,r4,r5):=H
      have A16:=Aside0.mk A160
      clear A160
      by_cases c17:t261 = true
      ·subst c17
       have H1:(if x8_1.length < 8796093022208 then (spec_l1Way.l0 k1 t248 t249 (x8_1 ++ [t260]) t256 (wrap64 (x10_1 + 1)) a0_0 l0_1 a0_2 a0_3) else (none)) = some (r1,r2,r3,r4,r5):=by rw [if_pos rfl] at H;exact H
       clear H
       have H:=H1
       clear H1
       by_cases c18:x8_1.length < 8796093022208
       ·rw [if_pos c18] at H
        have LMc18:=Aside0.mk c18
        clear c18
        obtain ⟨y262,hy262⟩:∃ y_:List ByteArray,y_ = (x8_1 ++ [t260]):=⟨_,rfl⟩
        replace H:(spec_l1Way.l0 k1 t248 t249 y262 t256 (wrap64 (x10_1 + 1)) a0_0 l0_1 a0_2 a0_3) = some (r1,r2,r3,r4,r5):=by first|(rw [hy262];with_reducible exact H)|(have H2_:=(Option.bind_some _ _).symm.trans H;rw [hy262];with_reducible exact H2_)|(have H2_:=(Option.bind_some _ _).symm.trans H;with_reducible exact H2_)|with_reducible exact H|(rw [hy262];exact H)|exact H
        have Ny262:=Aside0.mk hy262
        clear hy262
        have H':=Aside0.mk H
        clear H
        obtain ⟨Ao19,co19,eo19⟩:=Kd.R_slice HO_9.out
        subst eo19
        have p259:0 ≤ (x10_1:Int):=of_decide_eq_true (by first|(with_reducible assumption)|assumption)
        have q259:x10_1 < (t256.length:Int):=of_decide_eq_true (by first|(with_reducible assumption)|assumption)
        obtain ⟨ad259,e259,hx259_0⟩:=Kd.at_string (Kd.R_reads' HO_9.out).2.2 x10_1 p259 q259
        cases e259
        replace p259:=eq_true p259
        replace q259:=eq_true q259
        go_wp2_with (first|((with_reducible refine gate_callee (f:=54) rfl ?_);refine goesL_ (some 39) rfl rfl Tryd.func54 (by kernel_rfl) rfl #[.string (rdOf ByteArray.empty t256 x10_1)] rfl (by (try simp only [List.map_toArray,List.map_cons,List.map_nil]);first|done|rfl|(simp only [List.length_drop,List.length_take];rfl)) ?_;(with_reducible refine (spec_EscNorm.calls k1 (rdOf ByteArray.empty t256 x10_1) t260 true _ A16.out).mono ?_);rintro e w20 ⟨rfl,hb⟩;refine ⟨_,rfl,?_⟩;have n0_:=Aside0.mk (Kd.R_below (by (with_reducible repeat (first|apply Kd.R_alloc|apply Kd.R_drewN|apply Kd.R_drew));exact HO_8.out) hb);have n1_:=Aside0.mk (Kd.R_below (by (with_reducible repeat (first|apply Kd.R_alloc|apply Kd.R_drewN|apply Kd.R_drew));exact HO_9.out) hb);have n2_:=Aside0.mk (blk_below (g:=gb245) (o:=.cells #[.string a0_0, .slice A0_1 l0_1.length c0_1, .bool a0_2, .string a0_3] 24 (0,0)) (by (with_reducible repeat (first|refine blk_drewN ?_ _|refine blk_drew ?_|refine blk_alloc ?_ _));exact BK245.out) hb);have n3_:=Aside0.mk (blk_below (g:=gb246) (o:=.cells #[.string x247000_1, .slice none 0 0, .bool x247002_1, .string x247003_1] 24 (0,0)) (by (with_reducible repeat (first|refine blk_drewN ?_ _|refine blk_drew ?_|refine blk_alloc ?_ _));exact BK246.out) hb);have n4_:=Aside0.mk (below_step (by repeat (first|(with_reducible first|exact HB.out|apply below_alloc|apply pw_below_drewN|apply below_drew1|refine below_set ?_ GE245.out|refine below_set ?_ GE246.out)|exact HB.out)) hb);clear HO_8;clear HO_9;clear BK245;clear BK246;clear HB;have HO_8:=n0_;have HO_9:=n1_;have BK245:=n2_;have BK246:=n3_;have HB:=n4_;clear n0_ n1_ n2_ n3_ n4_;(try clear hb);(try clear hb2);(try clear hk);(try clear hi))|((with_reducible refine gate_builtin (b:=.append) (xs:=#[.tmp 45, .tmp 47]) rfl ?_);at_builtin;refine Kd.R_append Kd.string (w0:=w) w.heap.size rfl (.tmp 45) (.tmp 47) 22 9 (.string ⟨#[]⟩) 16 rfl Tryd.underlying22 info9 rfl (by decide) (by omega) u8 x8_1 t260 [.string t260] (fun k_=>some k_ ≠ (.slice (some ad259) t256.length co19:Value).ownBlock) (fun _=>False) rfl rfl ?aP (fun _ hk=>hk.elim) ?aF ?aO ?aB ?aS ?aL ?_;(case aP=>exact rfl);(case aB=>exact (by repeat (first|(with_reducible first|exact HB.out|apply below_alloc|apply pw_below_drewN|apply below_drew1|refine below_set ?_ GE245.out|refine below_set ?_ GE246.out)|exact HB.out)));(case aF=>exact (fun k_ hk=>Kd.fresh' (Kd.R_lt (by (with_reducible repeat (first|apply Kd.R_alloc|apply Kd.R_drewN|apply Kd.R_drew));exact HO_9.out)) k_ hk));(case aO=>exact (by (with_reducible repeat (first|apply Kd.R_alloc|apply Kd.R_drewN|apply Kd.R_drew));exact HO_8.out));(case aS=>exact (below_size (by repeat (first|(with_reducible first|exact HB.out|apply below_alloc|apply pw_below_drewN|apply below_drew1|refine below_set ?_ GE245.out|refine below_set ?_ GE246.out)|exact HB.out))));(case aL=>have:=LMc18.out;omega);intro v263 w21 ho hb hg hat;rw [← Ny262.out] at ho;have n0_:=Aside0.mk (Kd.R_after (ok:=(fun _=>True)) (by (with_reducible repeat (first|apply Kd.R_alloc|apply Kd.R_drewN|apply Kd.R_drew));exact Kd.R_mono HO_9.out (fun _ hk=>⟨trivial,hk⟩)) hg hat);have n1_:=Aside0.mk (blk_grown (g:=gb245) (o:=.cells #[.string a0_0, .slice A0_1 l0_1.length c0_1, .bool a0_2, .string a0_3] 24 (0,0)) (by (with_reducible repeat (first|refine blk_drewN ?_ _|refine blk_drew ?_|refine blk_alloc ?_ _));exact BK245.out) hg (Kd.R_ne HO_8.out BK245.out (by decide)));have n2_:=Aside0.mk (blk_grown (g:=gb246) (o:=.cells #[.string x247000_1, .slice none 0 0, .bool x247002_1, .string x247003_1] 24 (0,0)) (by (with_reducible repeat (first|refine blk_drewN ?_ _|refine blk_drew ?_|refine blk_alloc ?_ _));exact BK246.out) hg (Kd.R_ne HO_8.out BK246.out (by decide)));have n3_:=Aside0.mk (hb);have n4_:=Aside0.mk (ho);clear HO_9;clear BK245;clear BK246;clear HB;clear HO_8;have HO_9:=n0_;have BK245:=n1_;have BK246:=n2_;have HB:=n3_;have HO264:=n4_;clear n0_ n1_ n2_ n3_ n4_;clear ho hb hg hat))
        go_roundg k1
        case measure=>have:=HK1.out;omega
        case rel=>exact ⟨(y262),(wrap64 (x10_1 + 1)),(x247000_1),(x247002_1),(x247003_1),(by first|rfl|(simp;done)|(simp only [i64_w,i32_w];done)|(simp only [i64_w,i32_w];rfl)|(simp [*];done)|(simp [emp_bne,emp_beq];done)),H',⟨by have:=HK1.out;omega⟩,⟨by (with_reducible repeat (first|apply Kd.R_alloc|apply Kd.R_drewN|apply Kd.R_drew));exact HO264.out⟩,⟨by (with_reducible repeat (first|apply Kd.R_alloc|apply Kd.R_drewN|apply Kd.R_drew));exact Kd.R_mono HO_9.out (fun _ hk=>hk.2)⟩,⟨by (with_reducible repeat (first|refine blk_drewN ?_ _|refine blk_drew ?_|refine blk_alloc ?_ _));exact BK245.out⟩,⟨by (with_reducible repeat (first|refine blk_drewN ?_ _|refine blk_drew ?_|refine blk_alloc ?_ _));exact BK246.out⟩,⟨by repeat (first|(with_reducible first|exact HB.out|apply below_alloc|apply pw_below_drewN|apply below_drew1|refine below_set ?_ GE245.out|refine below_set ?_ GE246.out)|exact HB.out)⟩⟩
       ·rw [if_neg c18] at H
        exact absurd H (by simp)
      ·replace c17:=Bool.eq_false_iff.mpr c17
       subst c17
       have H1:(some ((⟨#[]⟩:ByteArray),([]:List ByteArray),false,(⟨#[]⟩:ByteArray),false)) = some (r1,r2,r3,r4,r5):=by rw [if_neg (show ¬ (false = true) by decide)] at H;exact H
       clear H
       have H:=H1
       clear H1
       simp only [Option.some.injEq,Prod.mk.injEq] at H
       obtain ⟨rfl,rfl,rfl,rfl,rfl⟩:=H
       obtain ⟨Ao22,co22,eo22⟩:=Kd.R_slice HO_9.out
       subst eo22
       have p259:0 ≤ (x10_1:Int):=of_decide_eq_true (by first|(with_reducible assumption)|assumption)
       have q259:x10_1 < (t256.length:Int):=of_decide_eq_true (by first|(with_reducible assumption)|assumption)
       obtain ⟨ad259,e259,hx259_0⟩:=Kd.at_string (Kd.R_reads' HO_9.out).2.2 x10_1 p259 q259
       cases e259
       replace p259:=eq_true p259
       replace q259:=eq_true q259
       go_wp2_with (first|((with_reducible refine gate_callee (f:=54) rfl ?_);refine goesL_ (some 39) rfl rfl Tryd.func54 (by kernel_rfl) rfl #[.string (rdOf ByteArray.empty t256 x10_1)] rfl (by (try simp only [List.map_toArray,List.map_cons,List.map_nil]);first|done|rfl|(simp only [List.length_drop,List.length_take];rfl)) ?_;(with_reducible refine (spec_EscNorm.calls k1 (rdOf ByteArray.empty t256 x10_1) t260 false _ A16.out).mono ?_);rintro e w23 ⟨rfl,hb⟩;refine ⟨_,rfl,?_⟩;have n0_:=Aside0.mk (Kd.R_below (by (with_reducible repeat (first|apply Kd.R_alloc|apply Kd.R_drewN|apply Kd.R_drew));exact HO_8.out) hb);have n1_:=Aside0.mk (Kd.R_below (by (with_reducible repeat (first|apply Kd.R_alloc|apply Kd.R_drewN|apply Kd.R_drew));exact HO_9.out) hb);have n2_:=Aside0.mk (blk_below (g:=gb245) (o:=.cells #[.string a0_0, .slice A0_1 l0_1.length c0_1, .bool a0_2, .string a0_3] 24 (0,0)) (by (with_reducible repeat (first|refine blk_drewN ?_ _|refine blk_drew ?_|refine blk_alloc ?_ _));exact BK245.out) hb);have n3_:=Aside0.mk (blk_below (g:=gb246) (o:=.cells #[.string x247000_1, .slice none 0 0, .bool x247002_1, .string x247003_1] 24 (0,0)) (by (with_reducible repeat (first|refine blk_drewN ?_ _|refine blk_drew ?_|refine blk_alloc ?_ _));exact BK246.out) hb);have n4_:=Aside0.mk (below_step (by repeat (first|(with_reducible first|exact HB.out|apply below_alloc|apply pw_below_drewN|apply below_drew1|refine below_set ?_ GE245.out|refine below_set ?_ GE246.out)|exact HB.out)) hb);clear HO_8;clear HO_9;clear BK245;clear BK246;clear HB;have HO_8:=n0_;have HO_9:=n1_;have BK245:=n2_;have BK246:=n3_;have HB:=n4_;clear n0_ n1_ n2_ n3_ n4_;(try clear hb);(try clear hb2);(try clear hk);(try clear hi);have hnb24:=NB246_245.out;have hnc24:=NB245_246.out;have hcz25_0:w23.cell? ⟨gb246,0,none⟩ = some (.string x247000_1):=(blk_cell BK246.out 0).trans rfl;have hcz25_1:w23.cell? ⟨gb246,1,none⟩ = some (.slice none 0 0):=(blk_cell BK246.out 1).trans rfl;have hcz25_2:w23.cell? ⟨gb246,2,none⟩ = some (.bool x247002_1):=(blk_cell BK246.out 2).trans rfl;have hcz25_3:w23.cell? ⟨gb246,3,none⟩ = some (.string x247003_1):=(blk_cell BK246.out 3).trans rfl;have hfz25_0:=blk_frozen BK246.out 0;have hfz25_1:=blk_frozen BK246.out 1;have hfz25_2:=blk_frozen BK246.out 2;have hfz25_3:=blk_frozen BK246.out 3))
       refine bodyPost_ret (results_ct rfl _ _ gb246 24 #[.string (⟨#[]⟩:ByteArray), .slice none 0 0, .bool false, .string (⟨#[]⟩:ByteArray)] (0,0) _ rfl (by (with_reducible repeat (first|refine blk_drewN ?_ _|refine blk_drew ?_|refine blk_alloc ?_ _));refine blk_put (cs:=#[.string (⟨#[]⟩:ByteArray), .slice none 0 0, .bool false, .string x247003_1]) ?_ 3 _ rfl;(with_reducible repeat (first|refine blk_drewN ?_ _|refine blk_drew ?_|refine blk_alloc ?_ _));refine blk_put (cs:=#[.string (⟨#[]⟩:ByteArray), .slice none 0 0, .bool x247002_1, .string x247003_1]) ?_ 2 _ rfl;(with_reducible repeat (first|refine blk_drewN ?_ _|refine blk_drew ?_|refine blk_alloc ?_ _));refine blk_put (cs:=#[.string (⟨#[]⟩:ByteArray), .slice none 0 0, .bool x247002_1, .string x247003_1]) ?_ 1 _ rfl;(with_reducible repeat (first|refine blk_drewN ?_ _|refine blk_drew ?_|refine blk_alloc ?_ _));refine blk_put (cs:=#[.string x247000_1, .slice none 0 0, .bool x247002_1, .string x247003_1]) ?_ 0 _ rfl;(with_reducible repeat (first|refine blk_drewN ?_ _|refine blk_drew ?_|refine blk_alloc ?_ _));exact BK246.out) Tryd.underlying24 rfl (by kernel_rfl)) rfl ?_
       exact ⟨_,by first|rfl|(simp <;> rfl)|(simp [*] <;> rfl),by first|exact Kd.R_nil _ _ _ _ _|exact Kd.N_nil _ _ _ _ _|exact Kd.V_nil _ _ _ _ _|exact Kd.Q_nil _ _ _ _ _|exact Kd.S_nil _ _ _ _ _,by repeat (first|(with_reducible first|exact HB.out|apply below_alloc|apply pw_below_drewN|apply below_drew1|refine below_set ?_ GE245.out|refine below_set ?_ GE246.out)|exact HB.out)⟩
     ·rw [if_neg c15] at H
      exact absurd H (by simp)
    ·rw [if_neg c14] at H
     have c14b0:decide (x10_1 < (t256.length:Int)) = false:=decide_eq_false c14
     clear c14
     replace H:=Option.bind_eq_some_iff.mp H
     obtain ⟨⟨t265,t266⟩,A260,H⟩:=H
     replace H:((spec_PathClean.f k1 x8_1).bind fun t267=>(if t266 = true then ((spec_AddrOk.f k1 a0_0 t267 t249 t265).bind fun t271=>(if t271 = true then (some (a0_0,t267,t249,t265,true)) else (some ((⟨#[]⟩:ByteArray),([]:List ByteArray),false,(⟨#[]⟩:ByteArray),false)))) else (some ((⟨#[]⟩:ByteArray),([]:List ByteArray),false,(⟨#[]⟩:ByteArray),false)))) = some (r1,r2,r3,r4,r5):=H
     have A26:=Aside0.mk A260
     clear A260
     replace H:=Option.bind_eq_some_iff.mp H
     obtain ⟨t267,A270,H⟩:=H
     replace H:(if t266 = true then ((spec_AddrOk.f k1 a0_0 t267 t249 t265).bind fun t271=>(if t271 = true then (some (a0_0,t267,t249,t265,true)) else (some ((⟨#[]⟩:ByteArray),([]:List ByteArray),false,(⟨#[]⟩:ByteArray),false)))) else (some ((⟨#[]⟩:ByteArray),([]:List ByteArray),false,(⟨#[]⟩:ByteArray),false))) = some (r1,r2,r3,r4,r5):=H
     have A27:=Aside0.mk A270
     clear A270
     by_cases c28:t266 = true
     ·subst c28
      have H1:((spec_AddrOk.f k1 a0_0 t267 t249 t265).bind fun t271=>(if t271 = true then (some (a0_0,t267,t249,t265,true)) else (some ((⟨#[]⟩:ByteArray),([]:List ByteArray),false,(⟨#[]⟩:ByteArray),false)))) = some (r1,r2,r3,r4,r5):=by rw [if_pos rfl] at H;exact H
      clear H
      have H:=H1
      clear H1
      replace H:=Option.bind_eq_some_iff.mp H
      obtain ⟨t271,A290,H⟩:=H
      replace H:(if t271 = true then (some (a0_0,t267,t249,t265,true)) else (some ((⟨#[]⟩:ByteArray),([]:List ByteArray),false,(⟨#[]⟩:ByteArray),false))) = some (r1,r2,r3,r4,r5):=H
      have A29:=Aside0.mk A290
      clear A290
      by_cases c30:t271 = true
      ·subst c30
       have H1:(some (a0_0,t267,t249,t265,true)) = some (r1,r2,r3,r4,r5):=by rw [if_pos rfl] at H;exact H
       clear H
       have H:=H1
       clear H1
       simp only [Option.some.injEq,Prod.mk.injEq] at H
       obtain ⟨rfl,rfl,rfl,rfl,rfl⟩:=H
       obtain ⟨Ao31,co31,eo31⟩:=Kd.R_slice HO_9.out
       subst eo31
       try go_wp2_with (first|((with_reducible refine gate_callee (f:=54) rfl ?_);refine goesL_ (some 51) rfl rfl Tryd.func54 (by kernel_rfl) rfl #[.string t248] rfl (by (try simp only [List.map_toArray,List.map_cons,List.map_nil]);first|done|rfl|(simp only [List.length_drop,List.length_take];rfl)) ?_;(with_reducible refine (spec_EscNorm.calls k1 t248 t265 true _ A26.out).mono ?_);rintro e w32 ⟨rfl,hb⟩;refine ⟨_,rfl,?_⟩;have n0_:=Aside0.mk (Kd.R_below (by (with_reducible repeat (first|apply Kd.R_alloc|apply Kd.R_drewN|apply Kd.R_drew));exact HO_8.out) hb);have n1_:=Aside0.mk (Kd.R_below (by (with_reducible repeat (first|apply Kd.R_alloc|apply Kd.R_drewN|apply Kd.R_drew));exact HO_9.out) hb);have n2_:=Aside0.mk (blk_below (g:=gb245) (o:=.cells #[.string a0_0, .slice A0_1 l0_1.length c0_1, .bool a0_2, .string a0_3] 24 (0,0)) (by (with_reducible repeat (first|refine blk_drewN ?_ _|refine blk_drew ?_|refine blk_alloc ?_ _));exact BK245.out) hb);have n3_:=Aside0.mk (blk_below (g:=gb246) (o:=.cells #[.string x247000_1, .slice none 0 0, .bool x247002_1, .string x247003_1] 24 (0,0)) (by (with_reducible repeat (first|refine blk_drewN ?_ _|refine blk_drew ?_|refine blk_alloc ?_ _));exact BK246.out) hb);have n4_:=Aside0.mk (below_step (by repeat (first|(with_reducible first|exact HB.out|apply below_alloc|apply pw_below_drewN|apply below_drew1|refine below_set ?_ GE245.out|refine below_set ?_ GE246.out)|exact HB.out)) hb);clear HO_8;clear HO_9;clear BK245;clear BK246;clear HB;have HO_8:=n0_;have HO_9:=n1_;have BK245:=n2_;have BK246:=n3_;have HB:=n4_;clear n0_ n1_ n2_ n3_ n4_;(try clear hb);(try clear hb2);(try clear hk);(try clear hi);obtain ⟨Ao33,co33,eo33⟩:=Kd.R_slice HO_8.out;subst eo33))
       have n0_:=Aside0.mk (Kd.R_drew HO_8.out)
       have n1_:=Aside0.mk (Kd.R_drew HO_9.out)
       have n2_:=Aside0.mk (blk_drew BK245.out)
       have n3_:=Aside0.mk (blk_drew BK246.out)
       have n4_:=Aside0.mk (below_drew1 HB.out)
       clear HO_8
       clear HO_9
       clear BK245
       clear BK246
       clear HB
       have HO_8:=n0_
       have HO_9:=n1_
       have BK245:=n2_
       have BK246:=n3_
       have HB:=n4_
       clear n0_ n1_ n2_ n3_ n4_
       refine start_ (n:=9) (S:=fun w'=>w'.cell? ⟨gb245,0,none⟩ = some (.string a0_0) ∧ w'.cell? ⟨gb245,1,none⟩ = some (.slice A0_1 l0_1.length c0_1) ∧ w'.cell? ⟨gb245,2,none⟩ = some (.bool a0_2) ∧ w'.cell? ⟨gb245,3,none⟩ = some (.string a0_3)) (ds:=[]) #[false,false,false,false,false,false,false,false,false] (by kernel_rfl) rfl rfl ⟨(blk_cell BK245.out 0).trans rfl,(blk_cell BK245.out 1).trans rfl,(blk_cell BK245.out 2).trans rfl,(blk_cell BK245.out 3).trans rfl⟩ (fun hHeld=>?_);refine with_tabW spec_l1Way.tab12 spec_l1Way.bits12 (fun HT_ HW_=>?_)
       generalize w32.drew = w34 at HO_8 HO_9 BK245 BK246 HB hHeld ⊢
       refine pure_ (i:=0) (N:=some 54) (v:=?_) (a':=?_) #[true,false,false,false,false,false,false,false,false] rfl rfl (any_of HT_.out (by kernel_rfl)) (fun _ _ _ h=>h) (Or.inl ⟨by rfl,?_⟩) ?_ ?_
       rotate_left
       ·intro w'
        go_simp
        with_reducible rfl
       rotate_left
       ·simp only [Act.put,List.setIfInBounds_toArray,List.set_cons_zero,List.set_cons_succ,i64_w,i32_w]
        rfl
       refine pure_ (i:=2) (N:=some 56) (v:=?_) (a':=?_) #[true,false,true,false,false,false,false,false,false] rfl rfl (any_of HT_.out (by kernel_rfl)) (fun _ _ _ h=>h) (Or.inl ⟨by rfl,?_⟩) ?_ ?_
       rotate_left
       ·intro w'
        go_simp
        with_reducible rfl
       rotate_left
       ·simp only [Act.put,List.setIfInBounds_toArray,List.set_cons_zero,List.set_cons_succ,i64_w,i32_w]
        rfl
       refine pure_ (i:=4) (N:=some 58) (v:=?_) (a':=?_) #[true,false,true,false,true,false,false,false,false] rfl rfl (any_of HT_.out (by kernel_rfl)) (fun _ _ _ h=>h) (Or.inl ⟨by rfl,?_⟩) ?_ ?_
       rotate_left
       ·intro w'
        go_simp
        with_reducible rfl
       rotate_left
       ·simp only [Act.put,List.setIfInBounds_toArray,List.set_cons_zero,List.set_cons_succ,i64_w,i32_w]
        rfl
       refine pure_ (i:=5) (N:=some 59) (v:=?_) (a':=?_) #[true,false,true,false,true,true,false,false,false] rfl rfl (any_of HT_.out (by kernel_rfl)) (fun _ _ _ h=>h) (Or.inl ⟨by rfl,?_⟩) ?_ ?_
       rotate_left
       ·intro w'
        go_simp
        with_reducible rfl
       rotate_left
       ·simp only [Act.put,List.setIfInBounds_toArray,List.set_cons_zero,List.set_cons_succ,i64_w,i32_w]
        rfl
       refine take_ (i:=1) (N:=some 55) (v:=?_) (a':=?_) #[true,true,true,false,true,true,false,false,false] rfl rfl (take_ofW HT_.out HW_.out (by kernel_rfl)) (fun _ _ _ h=>h) (Or.inl ⟨by rfl,?_⟩) hHeld ?_ ?_
       rotate_left
       ·rintro w' ⟨s0,s1,s2,s3⟩
        go_simp
        with_reducible rfl
       rotate_left
       ·simp only [Act.put,List.setIfInBounds_toArray,List.set_cons_zero,List.set_cons_succ,i64_w,i32_w]
        rfl
       refine join_ (σ:=Value × Nat) 1 #[true,true,true,true,true,true,true,true,false] (fun s_=>[(57,s_.1),(15, .pointer (some ⟨s_.2,0,none⟩)),(60, .agg #[.string a0_0,s_.1, .bool t249, .string t265])]) (fun s_ w'=>(w'.cell? ⟨gb245,0,none⟩ = some (.string a0_0) ∧ w'.cell? ⟨gb245,1,none⟩ = some (.slice A0_1 l0_1.length c0_1) ∧ w'.cell? ⟨gb245,2,none⟩ = some (.bool a0_2) ∧ w'.cell? ⟨gb245,3,none⟩ = some (.string a0_3)) ∧ (Kd.R Kd.string 9 w' w.heap.size (fun k_=>some k_ ≠ (.slice Ao33 x8_1.length co33:Value).ownBlock ∧ some k_ ≠ (.slice Ao31 t256.length co31:Value).ownBlock) s_.1 t267) ∧ (Kd.R Kd.string 9 w' w.heap.size (fun k_=>some k_ ≠ (s_.1:Value).ownBlock ∧ some k_ ≠ (.slice Ao31 t256.length co31:Value).ownBlock) (.slice Ao33 x8_1.length co33) x8_1) ∧ (Kd.R Kd.string 9 w' w.heap.size (fun k_=>some k_ ≠ (s_.1:Value).ownBlock ∧ some k_ ≠ (.slice Ao33 x8_1.length co33:Value).ownBlock) (.slice Ao31 t256.length co31) t256) ∧ (w'.heap[gb245]? = some (.cells #[.string a0_0, .slice A0_1 l0_1.length c0_1, .bool a0_2, .string a0_3] 24 (0,0))) ∧ (w'.heap[gb246]? = some (.cells #[.string x247000_1, .slice none 0 0, .bool x247002_1, .string x247003_1] 24 (0,0))) ∧ (w'.heap[s_.2]? = some (.cells #[.string (⟨#[]⟩:ByteArray), .slice none 0 0, .bool false, .string (⟨#[]⟩:ByteArray)] 24 (0,0))) ∧ (w.heap.size ≤ s_.2) ∧ (w.heap.size ≤ s_.2) ∧ (gb245 ≠ s_.2) ∧ (s_.2 ≠ gb245) ∧ (gb246 ≠ s_.2) ∧ (s_.2 ≠ gb246) ∧ (Below w.heap.size w w')) ?_ ?_
       rotate_left
       ·intro hCont
        refine two_ (i:=3) (j:=7) (Ni:=some 57) (Nj:=some 15) #[true,true,true,true,true,true,false,false,false] #[true,true,true,false,true,true,false,true,false] rfl rfl rfl rfl (two_of HT_.out (by kernel_rfl)) (by decide) (by decide) (fun K hK=>?_) (fun K hK=>?_)
        ·skip
         refine goes_ Tryd.func55 (by kernel_rfl) rfl #[.slice Ao33 x8_1.length co33] (by rfl) rfl rfl (by (try simp only [List.map_toArray,List.map_cons,List.map_nil]);first|done|rfl|(simp only [List.length_drop,List.length_take];rfl)) ?_
         with_reducible refine (spec_PathClean.calls k1 _ _ x8_1 t267 _ ?side1 ?side2 A27.out).mono ?_
         (case side1=>repeat (first|exact (Kd.R_reads' HO_8.out).2.2|(with_reducible refine Kd.C_alloc ?_ _)|(with_reducible refine Kd.C_drewN ?_ _)|(with_reducible refine Kd.C_drew ?_)))
         (case side2=>exact (Kd.R_reads' HO_8.out).2.1)
         rintro e w35 ⟨v268,rfl,ho0,hb⟩
         refine ⟨_,rfl,?_⟩
         have n0_:=Aside0.mk (Kd.R_elder' (by (with_reducible repeat (first|apply Kd.R_alloc|apply Kd.R_drewN|apply Kd.R_drew));exact HO_8.out) (Kd.R_base ho0) hb)
         have n1_:=Aside0.mk (Kd.R_elder' (by (with_reducible repeat (first|apply Kd.R_alloc|apply Kd.R_drewN|apply Kd.R_drew));exact HO_9.out) (Kd.R_base ho0) hb)
         have n2_:=Aside0.mk (Kd.R_lower (Kd.R_new' (Kd.R_new' ho0 (Kd.R_lt (by (with_reducible repeat (first|apply Kd.R_alloc|apply Kd.R_drewN|apply Kd.R_drew));exact HO_8.out))) (Kd.R_lt (by (with_reducible repeat (first|apply Kd.R_alloc|apply Kd.R_drewN|apply Kd.R_drew));exact HO_9.out))) (below_size (by repeat (first|(with_reducible first|exact HB.out|apply below_alloc|apply pw_below_drewN|apply below_drew1|refine below_set ?_ GE245.out|refine below_set ?_ GE246.out)|exact HB.out))))
         have n3_:=Aside0.mk (blk_below (g:=gb245) (o:=.cells #[.string a0_0, .slice A0_1 l0_1.length c0_1, .bool a0_2, .string a0_3] 24 (0,0)) (by (with_reducible repeat (first|refine blk_drewN ?_ _|refine blk_drew ?_|refine blk_alloc ?_ _));exact BK245.out) hb)
         have n4_:=Aside0.mk (blk_below (g:=gb246) (o:=.cells #[.string x247000_1, .slice none 0 0, .bool x247002_1, .string x247003_1] 24 (0,0)) (by (with_reducible repeat (first|refine blk_drewN ?_ _|refine blk_drew ?_|refine blk_alloc ?_ _));exact BK246.out) hb)
         have n5_:=Aside0.mk (below_step (by repeat (first|(with_reducible first|exact HB.out|apply below_alloc|apply pw_below_drewN|apply below_drew1|refine below_set ?_ GE245.out|refine below_set ?_ GE246.out)|exact HB.out)) hb)
         clear HO_8
         clear HO_9
         clear BK245
         clear BK246
         clear HB
         have HO_8:=n0_
         have HO_9:=n1_
         have HO269:=n2_
         have BK245:=n3_
         have BK246:=n4_
         have HB:=n5_
         clear n0_ n1_ n2_ n3_ n4_ n5_
         (try clear hb)
         (try clear hb2)
         (try clear hk)
         (try clear hi)
         (try clear ho0)
         obtain ⟨Ao36,co36,eo36⟩:=Kd.R_slice HO269.out
         (first|subst eo36|(injection eo36 with f1_ f2_ f3_;have f4_:=f1_.symm;have f5_:=f3_.symm;clear f1_ f2_ f3_;subst f4_;subst f5_))
         refine hK.out _ _ ⟨(blk_cell BK245.out 0).trans rfl,(blk_cell BK245.out 1).trans rfl,(blk_cell BK245.out 2).trans rfl,(blk_cell BK245.out 3).trans rfl⟩ (fun hHeld=>?_)
         clear hK K
         refine norm_ (a':=?_) ?_ ?_
         rotate_left
         ·show Act.put _ (some 57) _ = _
          simp only [Act.put,List.setIfInBounds_toArray,List.set_cons_zero,List.set_cons_succ,i64_w,i32_w]
          rfl
         refine pure_ (i:=6) (N:=some 60) (v:=?_) (a':=?_) #[true,true,true,true,true,true,true,false,false] rfl rfl (any_of HT_.out (by kernel_rfl)) (fun _ _ _ h=>h) (Or.inl ⟨by rfl,?_⟩) ?_ ?_
         rotate_left
         ·intro w'
          go_simp
          with_reducible rfl
         rotate_left
         ·simp only [Act.put,List.setIfInBounds_toArray,List.set_cons_zero,List.set_cons_succ,i64_w,i32_w]
          rfl
         refine one_ (i:=7) (N:=some 15) #[true,true,true,true,true,true,true,true,false] rfl rfl (one_of HT_.out (by kernel_rfl)) (by decide) (fun K hK=>?_)
         refine box_step ?hg (N:=15) ?hd (cs:=#[.string (⟨#[]⟩:ByteArray), .slice none 0 0, .bool false, .string (⟨#[]⟩:ByteArray)]) (t:=24) ?hr ?_;(case hd=>rfl);(case hg=>rfl);(case hr=>first|(go_simp;done)|(go_simp;rfl))
         intro gb270 hg w37 hbox hb
         have n0_:=Aside0.mk (Kd.R_below (by (with_reducible repeat (first|apply Kd.R_alloc|apply Kd.R_drewN|apply Kd.R_drew));exact HO_8.out) hb)
         have n1_:=Aside0.mk (Kd.R_below (by (with_reducible repeat (first|apply Kd.R_alloc|apply Kd.R_drewN|apply Kd.R_drew));exact HO_9.out) hb)
         have n2_:=Aside0.mk (Kd.R_below (by (with_reducible repeat (first|apply Kd.R_alloc|apply Kd.R_drewN|apply Kd.R_drew));exact HO269.out) hb)
         have n3_:=Aside0.mk (blk_below (g:=gb245) (o:=.cells #[.string a0_0, .slice A0_1 l0_1.length c0_1, .bool a0_2, .string a0_3] 24 (0,0)) (by (with_reducible repeat (first|refine blk_drewN ?_ _|refine blk_drew ?_|refine blk_alloc ?_ _));exact BK245.out) hb)
         have n4_:=Aside0.mk (blk_below (g:=gb246) (o:=.cells #[.string x247000_1, .slice none 0 0, .bool x247002_1, .string x247003_1] 24 (0,0)) (by (with_reducible repeat (first|refine blk_drewN ?_ _|refine blk_drew ?_|refine blk_alloc ?_ _));exact BK246.out) hb)
         have n5_:=Aside0.mk (below_step (by repeat (first|(with_reducible first|exact HB.out|apply below_alloc|apply pw_below_drewN|apply below_drew1|refine below_set ?_ GE245.out|refine below_set ?_ GE246.out)|exact HB.out)) hb)
         have n6_:=Aside0.mk (hbox)
         have n7_:=Aside0.mk ((by rw [hg];exact (below_size (by repeat (first|(with_reducible first|exact HB.out|apply below_alloc|apply pw_below_drewN|apply below_drew1|refine below_set ?_ GE245.out|refine below_set ?_ GE246.out)|exact HB.out))):w.heap.size ≤ gb270))
         have n8_:=Aside0.mk ((by rw [hg];exact (below_size (by repeat (first|(with_reducible first|exact HB.out|apply below_alloc|apply pw_below_drewN|apply below_drew1|refine below_set ?_ GE245.out|refine below_set ?_ GE246.out)|exact HB.out))):w.heap.size ≤ gb270))
         have n9_:=Aside0.mk ((by rw [hg];exact Nat.ne_of_lt (blk_lt (g:=gb245) (o:=.cells #[.string a0_0, .slice A0_1 l0_1.length c0_1, .bool a0_2, .string a0_3] 24 (0,0)) (by (with_reducible repeat (first|refine blk_drewN ?_ _|refine blk_drew ?_|refine blk_alloc ?_ _));exact BK245.out)):gb245 ≠ gb270))
         have n10_:=Aside0.mk ((by rw [hg];exact Nat.ne_of_gt (blk_lt (g:=gb245) (o:=.cells #[.string a0_0, .slice A0_1 l0_1.length c0_1, .bool a0_2, .string a0_3] 24 (0,0)) (by (with_reducible repeat (first|refine blk_drewN ?_ _|refine blk_drew ?_|refine blk_alloc ?_ _));exact BK245.out)):gb270 ≠ gb245))
         have n11_:=Aside0.mk ((by rw [hg];exact Nat.ne_of_lt (blk_lt (g:=gb246) (o:=.cells #[.string x247000_1, .slice none 0 0, .bool x247002_1, .string x247003_1] 24 (0,0)) (by (with_reducible repeat (first|refine blk_drewN ?_ _|refine blk_drew ?_|refine blk_alloc ?_ _));exact BK246.out)):gb246 ≠ gb270))
         have n12_:=Aside0.mk ((by rw [hg];exact Nat.ne_of_gt (blk_lt (g:=gb246) (o:=.cells #[.string x247000_1, .slice none 0 0, .bool x247002_1, .string x247003_1] 24 (0,0)) (by (with_reducible repeat (first|refine blk_drewN ?_ _|refine blk_drew ?_|refine blk_alloc ?_ _));exact BK246.out)):gb270 ≠ gb246))
         clear HO_8
         clear HO_9
         clear HO269
         clear BK245
         clear BK246
         clear HB
         have HO_8:=n0_
         have HO_9:=n1_
         have HO269:=n2_
         have BK245:=n3_
         have BK246:=n4_
         have HB:=n5_
         have BK270:=n6_
         have GW270:=n7_
         have GE270:=n8_
         have NB245_270:=n9_
         have NB270_245:=n10_
         have NB246_270:=n11_
         have NB270_246:=n12_
         clear n0_ n1_ n2_ n3_ n4_ n5_ n6_ n7_ n8_ n9_ n10_ n11_ n12_
         clear hb hbox hg
         refine hK.out _ _ ⟨(blk_cell BK245.out 0).trans rfl,(blk_cell BK245.out 1).trans rfl,(blk_cell BK245.out 2).trans rfl,(blk_cell BK245.out 3).trans rfl⟩ (fun hHeld=>?_)
         clear hK K
         refine norm_ (a':=?_) ?_ ?_
         rotate_left
         ·show Act.put _ (some 15) _ = _
          simp only [Act.put,List.setIfInBounds_toArray,List.set_cons_zero,List.set_cons_succ,i64_w,i32_w]
          rfl
         exact norm_ (by simp only [putAll,Act.put,List.setIfInBounds_toArray,List.set_cons_zero,List.set_cons_succ]) (hCont (.slice Ao36 t267.length co36,gb270) _ ⟨hHeld,(by (with_reducible repeat (first|apply Kd.R_alloc|apply Kd.R_drewN|apply Kd.R_drew));exact Kd.R_mono HO269.out (fun _ hk=>⟨hk.1.2,hk.2⟩)),(by (with_reducible repeat (first|apply Kd.R_alloc|apply Kd.R_drewN|apply Kd.R_drew));exact Kd.R_mono HO_8.out (fun _ hk=>⟨hk.2,hk.1⟩)),(by (with_reducible repeat (first|apply Kd.R_alloc|apply Kd.R_drewN|apply Kd.R_drew));exact Kd.R_mono HO_9.out (fun _ hk=>⟨hk.2,hk.1⟩)),(by (with_reducible repeat (first|refine blk_drewN ?_ _|refine blk_drew ?_|refine blk_alloc ?_ _));exact BK245.out),(by (with_reducible repeat (first|refine blk_drewN ?_ _|refine blk_drew ?_|refine blk_alloc ?_ _));exact BK246.out),(by (with_reducible repeat (first|refine blk_drewN ?_ _|refine blk_drew ?_|refine blk_alloc ?_ _));exact BK270.out),GW270.out,GE270.out,NB245_270.out,NB270_245.out,NB246_270.out,NB270_246.out,(by repeat (first|(with_reducible first|exact HB.out|apply below_alloc|apply pw_below_drewN|apply below_drew1|refine below_set ?_ GE245.out|refine below_set ?_ GE246.out|refine below_set ?_ GE270.out)|exact HB.out))⟩)
        ·skip
         refine box_step ?hg (N:=15) ?hd (cs:=#[.string (⟨#[]⟩:ByteArray), .slice none 0 0, .bool false, .string (⟨#[]⟩:ByteArray)]) (t:=24) ?hr ?_;(case hd=>rfl);(case hg=>rfl);(case hr=>first|(go_simp;done)|(go_simp;rfl))
         intro gb270 hg w35 hbox hb
         have n0_:=Aside0.mk (Kd.R_below (by (with_reducible repeat (first|apply Kd.R_alloc|apply Kd.R_drewN|apply Kd.R_drew));exact HO_8.out) hb)
         have n1_:=Aside0.mk (Kd.R_below (by (with_reducible repeat (first|apply Kd.R_alloc|apply Kd.R_drewN|apply Kd.R_drew));exact HO_9.out) hb)
         have n2_:=Aside0.mk (blk_below (g:=gb245) (o:=.cells #[.string a0_0, .slice A0_1 l0_1.length c0_1, .bool a0_2, .string a0_3] 24 (0,0)) (by (with_reducible repeat (first|refine blk_drewN ?_ _|refine blk_drew ?_|refine blk_alloc ?_ _));exact BK245.out) hb)
         have n3_:=Aside0.mk (blk_below (g:=gb246) (o:=.cells #[.string x247000_1, .slice none 0 0, .bool x247002_1, .string x247003_1] 24 (0,0)) (by (with_reducible repeat (first|refine blk_drewN ?_ _|refine blk_drew ?_|refine blk_alloc ?_ _));exact BK246.out) hb)
         have n4_:=Aside0.mk (below_step (by repeat (first|(with_reducible first|exact HB.out|apply below_alloc|apply pw_below_drewN|apply below_drew1|refine below_set ?_ GE245.out|refine below_set ?_ GE246.out)|exact HB.out)) hb)
         have n5_:=Aside0.mk (hbox)
         have n6_:=Aside0.mk ((by rw [hg];exact (below_size (by repeat (first|(with_reducible first|exact HB.out|apply below_alloc|apply pw_below_drewN|apply below_drew1|refine below_set ?_ GE245.out|refine below_set ?_ GE246.out)|exact HB.out))):w.heap.size ≤ gb270))
         have n7_:=Aside0.mk ((by rw [hg];exact (below_size (by repeat (first|(with_reducible first|exact HB.out|apply below_alloc|apply pw_below_drewN|apply below_drew1|refine below_set ?_ GE245.out|refine below_set ?_ GE246.out)|exact HB.out))):w.heap.size ≤ gb270))
         have n8_:=Aside0.mk ((by rw [hg];exact Nat.ne_of_lt (blk_lt (g:=gb245) (o:=.cells #[.string a0_0, .slice A0_1 l0_1.length c0_1, .bool a0_2, .string a0_3] 24 (0,0)) (by (with_reducible repeat (first|refine blk_drewN ?_ _|refine blk_drew ?_|refine blk_alloc ?_ _));exact BK245.out)):gb245 ≠ gb270))
         have n9_:=Aside0.mk ((by rw [hg];exact Nat.ne_of_gt (blk_lt (g:=gb245) (o:=.cells #[.string a0_0, .slice A0_1 l0_1.length c0_1, .bool a0_2, .string a0_3] 24 (0,0)) (by (with_reducible repeat (first|refine blk_drewN ?_ _|refine blk_drew ?_|refine blk_alloc ?_ _));exact BK245.out)):gb270 ≠ gb245))
         have n10_:=Aside0.mk ((by rw [hg];exact Nat.ne_of_lt (blk_lt (g:=gb246) (o:=.cells #[.string x247000_1, .slice none 0 0, .bool x247002_1, .string x247003_1] 24 (0,0)) (by (with_reducible repeat (first|refine blk_drewN ?_ _|refine blk_drew ?_|refine blk_alloc ?_ _));exact BK246.out)):gb246 ≠ gb270))
         have n11_:=Aside0.mk ((by rw [hg];exact Nat.ne_of_gt (blk_lt (g:=gb246) (o:=.cells #[.string x247000_1, .slice none 0 0, .bool x247002_1, .string x247003_1] 24 (0,0)) (by (with_reducible repeat (first|refine blk_drewN ?_ _|refine blk_drew ?_|refine blk_alloc ?_ _));exact BK246.out)):gb270 ≠ gb246))
         clear HO_8
         clear HO_9
         clear BK245
         clear BK246
         clear HB
         have HO_8:=n0_
         have HO_9:=n1_
         have BK245:=n2_
         have BK246:=n3_
         have HB:=n4_
         have BK270:=n5_
         have GW270:=n6_
         have GE270:=n7_
         have NB245_270:=n8_
         have NB270_245:=n9_
         have NB246_270:=n10_
         have NB270_246:=n11_
         clear n0_ n1_ n2_ n3_ n4_ n5_ n6_ n7_ n8_ n9_ n10_ n11_
         clear hb hbox hg
         refine hK.out _ _ ⟨(blk_cell BK245.out 0).trans rfl,(blk_cell BK245.out 1).trans rfl,(blk_cell BK245.out 2).trans rfl,(blk_cell BK245.out 3).trans rfl⟩ (fun hHeld=>?_)
         clear hK K
         refine norm_ (a':=?_) ?_ ?_
         rotate_left
         ·show Act.put _ (some 15) _ = _
          simp only [Act.put,List.setIfInBounds_toArray,List.set_cons_zero,List.set_cons_succ,i64_w,i32_w]
          rfl
         refine one_ (i:=3) (N:=some 57) #[true,true,true,true,true,true,false,true,false] rfl rfl (one_of HT_.out (by kernel_rfl)) (by decide) (fun K hK=>?_)
         refine goes_ Tryd.func55 (by kernel_rfl) rfl #[.slice Ao33 x8_1.length co33] (by rfl) rfl rfl (by (try simp only [List.map_toArray,List.map_cons,List.map_nil]);first|done|rfl|(simp only [List.length_drop,List.length_take];rfl)) ?_
         with_reducible refine (spec_PathClean.calls k1 _ _ x8_1 t267 _ ?side1 ?side2 A27.out).mono ?_
         (case side1=>repeat (first|exact (Kd.R_reads' HO_8.out).2.2|(with_reducible refine Kd.C_alloc ?_ _)|(with_reducible refine Kd.C_drewN ?_ _)|(with_reducible refine Kd.C_drew ?_)))
         (case side2=>exact (Kd.R_reads' HO_8.out).2.1)
         rintro e w36 ⟨v268,rfl,ho0,hb⟩
         refine ⟨_,rfl,?_⟩
         have n0_:=Aside0.mk (Kd.R_elder' (by (with_reducible repeat (first|apply Kd.R_alloc|apply Kd.R_drewN|apply Kd.R_drew));exact HO_8.out) (Kd.R_base ho0) hb)
         have n1_:=Aside0.mk (Kd.R_elder' (by (with_reducible repeat (first|apply Kd.R_alloc|apply Kd.R_drewN|apply Kd.R_drew));exact HO_9.out) (Kd.R_base ho0) hb)
         have n2_:=Aside0.mk (Kd.R_lower (Kd.R_new' (Kd.R_new' ho0 (Kd.R_lt (by (with_reducible repeat (first|apply Kd.R_alloc|apply Kd.R_drewN|apply Kd.R_drew));exact HO_8.out))) (Kd.R_lt (by (with_reducible repeat (first|apply Kd.R_alloc|apply Kd.R_drewN|apply Kd.R_drew));exact HO_9.out))) (below_size (by repeat (first|(with_reducible first|exact HB.out|apply below_alloc|apply pw_below_drewN|apply below_drew1|refine below_set ?_ GE245.out|refine below_set ?_ GE246.out|refine below_set ?_ GE270.out)|exact HB.out))))
         have n3_:=Aside0.mk (blk_below (g:=gb245) (o:=.cells #[.string a0_0, .slice A0_1 l0_1.length c0_1, .bool a0_2, .string a0_3] 24 (0,0)) (by (with_reducible repeat (first|refine blk_drewN ?_ _|refine blk_drew ?_|refine blk_alloc ?_ _));exact BK245.out) hb)
         have n4_:=Aside0.mk (blk_below (g:=gb246) (o:=.cells #[.string x247000_1, .slice none 0 0, .bool x247002_1, .string x247003_1] 24 (0,0)) (by (with_reducible repeat (first|refine blk_drewN ?_ _|refine blk_drew ?_|refine blk_alloc ?_ _));exact BK246.out) hb)
         have n5_:=Aside0.mk (blk_below (g:=gb270) (o:=.cells #[.string (⟨#[]⟩:ByteArray), .slice none 0 0, .bool false, .string (⟨#[]⟩:ByteArray)] 24 (0,0)) (by (with_reducible repeat (first|refine blk_drewN ?_ _|refine blk_drew ?_|refine blk_alloc ?_ _));exact BK270.out) hb)
         have n6_:=Aside0.mk (below_step (by repeat (first|(with_reducible first|exact HB.out|apply below_alloc|apply pw_below_drewN|apply below_drew1|refine below_set ?_ GE245.out|refine below_set ?_ GE246.out|refine below_set ?_ GE270.out)|exact HB.out)) hb)
         clear HO_8
         clear HO_9
         clear BK245
         clear BK246
         clear BK270
         clear HB
         have HO_8:=n0_
         have HO_9:=n1_
         have HO269:=n2_
         have BK245:=n3_
         have BK246:=n4_
         have BK270:=n5_
         have HB:=n6_
         clear n0_ n1_ n2_ n3_ n4_ n5_ n6_
         (try clear hb)
         (try clear hb2)
         (try clear hk)
         (try clear hi)
         (try clear ho0)
         obtain ⟨Ao37,co37,eo37⟩:=Kd.R_slice HO269.out
         (first|subst eo37|(injection eo37 with f1_ f2_ f3_;have f4_:=f1_.symm;have f5_:=f3_.symm;clear f1_ f2_ f3_;subst f4_;subst f5_))
         refine hK.out _ _ ⟨(blk_cell BK245.out 0).trans rfl,(blk_cell BK245.out 1).trans rfl,(blk_cell BK245.out 2).trans rfl,(blk_cell BK245.out 3).trans rfl⟩ (fun hHeld=>?_)
         clear hK K
         refine norm_ (a':=?_) ?_ ?_
         rotate_left
         ·show Act.put _ (some 57) _ = _
          simp only [Act.put,List.setIfInBounds_toArray,List.set_cons_zero,List.set_cons_succ,i64_w,i32_w]
          rfl
         refine pure_ (i:=6) (N:=some 60) (v:=?_) (a':=?_) #[true,true,true,true,true,true,true,true,false] rfl rfl (any_of HT_.out (by kernel_rfl)) (fun _ _ _ h=>h) (Or.inl ⟨by rfl,?_⟩) ?_ ?_
         rotate_left
         ·intro w'
          go_simp
          with_reducible rfl
         rotate_left
         ·simp only [Act.put,List.setIfInBounds_toArray,List.set_cons_zero,List.set_cons_succ,i64_w,i32_w]
          rfl
         exact norm_ (by simp only [putAll,Act.put,List.setIfInBounds_toArray,List.set_cons_zero,List.set_cons_succ]) (hCont (.slice Ao37 t267.length co37,gb270) _ ⟨hHeld,(by (with_reducible repeat (first|apply Kd.R_alloc|apply Kd.R_drewN|apply Kd.R_drew));exact Kd.R_mono HO269.out (fun _ hk=>⟨hk.1.2,hk.2⟩)),(by (with_reducible repeat (first|apply Kd.R_alloc|apply Kd.R_drewN|apply Kd.R_drew));exact Kd.R_mono HO_8.out (fun _ hk=>⟨hk.2,hk.1⟩)),(by (with_reducible repeat (first|apply Kd.R_alloc|apply Kd.R_drewN|apply Kd.R_drew));exact Kd.R_mono HO_9.out (fun _ hk=>⟨hk.2,hk.1⟩)),(by (with_reducible repeat (first|refine blk_drewN ?_ _|refine blk_drew ?_|refine blk_alloc ?_ _));exact BK245.out),(by (with_reducible repeat (first|refine blk_drewN ?_ _|refine blk_drew ?_|refine blk_alloc ?_ _));exact BK246.out),(by (with_reducible repeat (first|refine blk_drewN ?_ _|refine blk_drew ?_|refine blk_alloc ?_ _));exact BK270.out),GW270.out,GE270.out,NB245_270.out,NB270_245.out,NB246_270.out,NB270_246.out,(by repeat (first|(with_reducible first|exact HB.out|apply below_alloc|apply pw_below_drewN|apply below_drew1|refine below_set ?_ GE245.out|refine below_set ?_ GE246.out|refine below_set ?_ GE270.out)|exact HB.out))⟩)
       rintro ⟨v268,gb270⟩ w38 ⟨hS_,h0_,h1_,h2_,h3_,h4_,h5_,h6_,h7_,h8_,h9_,h10_,h11_,h12_⟩
       have n0_:Aside0 (Kd.R Kd.string 9 w38 w.heap.size (fun k_=>some k_ ≠ (.slice Ao33 x8_1.length co33:Value).ownBlock ∧ some k_ ≠ (.slice Ao31 t256.length co31:Value).ownBlock) v268 t267):=⟨h0_⟩
       have n1_:Aside0 (Kd.R Kd.string 9 w38 w.heap.size (fun k_=>some k_ ≠ (v268:Value).ownBlock ∧ some k_ ≠ (.slice Ao31 t256.length co31:Value).ownBlock) (.slice Ao33 x8_1.length co33) x8_1):=⟨h1_⟩
       have n2_:Aside0 (Kd.R Kd.string 9 w38 w.heap.size (fun k_=>some k_ ≠ (v268:Value).ownBlock ∧ some k_ ≠ (.slice Ao33 x8_1.length co33:Value).ownBlock) (.slice Ao31 t256.length co31) t256):=⟨h2_⟩
       have n3_:Aside0 (w38.heap[gb245]? = some (.cells #[.string a0_0, .slice A0_1 l0_1.length c0_1, .bool a0_2, .string a0_3] 24 (0,0))):=⟨h3_⟩
       have n4_:Aside0 (w38.heap[gb246]? = some (.cells #[.string x247000_1, .slice none 0 0, .bool x247002_1, .string x247003_1] 24 (0,0))):=⟨h4_⟩
       have n5_:Aside0 (w38.heap[gb270]? = some (.cells #[.string (⟨#[]⟩:ByteArray), .slice none 0 0, .bool false, .string (⟨#[]⟩:ByteArray)] 24 (0,0))):=⟨h5_⟩
       have n6_:Aside0 (w.heap.size ≤ gb270):=⟨h6_⟩
       have n7_:Aside0 (w.heap.size ≤ gb270):=⟨h7_⟩
       have n8_:Aside0 (gb245 ≠ gb270):=⟨h8_⟩
       have n9_:Aside0 (gb270 ≠ gb245):=⟨h9_⟩
       have n10_:Aside0 (gb246 ≠ gb270):=⟨h10_⟩
       have n11_:Aside0 (gb270 ≠ gb246):=⟨h11_⟩
       have n12_:Aside0 (Below w.heap.size w w38):=⟨h12_⟩
       clear HO_8
       clear HO_9
       clear BK245
       clear BK246
       clear HB
       clear h0_ h1_ h2_ h3_ h4_ h5_ h6_ h7_ h8_ h9_ h10_ h11_ h12_
       have HO269:=n0_
       have HO_8:=n1_
       have HO_9:=n2_
       have BK245:=n3_
       have BK246:=n4_
       have BK270:=n5_
       have GW270:=n6_
       have GE270:=n7_
       have NB245_270:=n8_
       have NB270_245:=n9_
       have NB246_270:=n10_
       have NB270_246:=n11_
       have HB:=n12_
       clear n0_ n1_ n2_ n3_ n4_ n5_ n6_ n7_ n8_ n9_ n10_ n11_ n12_
       have hHeld:w38.cell? ⟨gb245,0,none⟩ = some (.string a0_0) ∧ w38.cell? ⟨gb245,1,none⟩ = some (.slice A0_1 l0_1.length c0_1) ∧ w38.cell? ⟨gb245,2,none⟩ = some (.bool a0_2) ∧ w38.cell? ⟨gb245,3,none⟩ = some (.string a0_3):=hS_
       obtain ⟨Ao39,co39,eo39⟩:=Kd.R_slice HO269.out
       (first|subst eo39|(injection eo39 with f1_ f2_ f3_;have f4_:=f1_.symm;have f5_:=f3_.symm;clear f1_ f2_ f3_;subst f4_;subst f5_))
       refine norm_ (a':=?_) ?_ ?_
       rotate_left
       ·simp only [putAll,Act.put,List.setIfInBounds_toArray,List.set_cons_zero,List.set_cons_succ]
        rfl
       refine one_ (i:=8) (N:=none) #[true,true,true,true,true,true,true,true,true] rfl rfl (one_of HT_.out (by kernel_rfl)) (by decide) (fun K hK=>?_)
       have hs40:w38.cell? ⟨gb270,0,none⟩ = some (.string (⟨#[]⟩:ByteArray)):=(blk_cell BK270.out 0).trans rfl
       have hfs40:=blk_frozen BK270.out 0
       have hns40_0:=NB245_270.out
       have hns40_1:=NB246_270.out
       have hms40_0:=NB270_245.out
       have hms40_1:=NB270_246.out
       have hs41:w38.cell? ⟨gb270,1,none⟩ = some (.slice none 0 0):=(blk_cell BK270.out 1).trans rfl
       have hfs41:=blk_frozen BK270.out 1
       have hns41_0:=NB245_270.out
       have hns41_1:=NB246_270.out
       have hms41_0:=NB270_245.out
       have hms41_1:=NB270_246.out
       have hs42:w38.cell? ⟨gb270,2,none⟩ = some (.bool false):=(blk_cell BK270.out 2).trans rfl
       have hfs42:=blk_frozen BK270.out 2
       have hns42_0:=NB245_270.out
       have hns42_1:=NB246_270.out
       have hms42_0:=NB270_245.out
       have hms42_1:=NB270_246.out
       have hs43:w38.cell? ⟨gb270,3,none⟩ = some (.string (⟨#[]⟩:ByteArray)):=(blk_cell BK270.out 3).trans rfl
       have hfs43:=blk_frozen BK270.out 3
       have hns43_0:=NB245_270.out
       have hns43_1:=NB246_270.out
       have hms43_0:=NB270_245.out
       have hms43_1:=NB270_246.out
       refine skip_ (w1:=?_) (by rfl) rfl ?_ ?_
       rotate_left
       ·go_simp
        rfl
       refine hK.out _ _ ⟨((cell_far (p:=⟨gb270,_,none⟩) NB245_270.out _).trans (((cell_far (p:=⟨gb270,_,none⟩) NB245_270.out _).trans (((cell_far (p:=⟨gb270,_,none⟩) NB245_270.out _).trans (((cell_far (p:=⟨gb270,_,none⟩) NB245_270.out _).trans (hHeld.1)))))))),((cell_far (p:=⟨gb270,_,none⟩) NB245_270.out _).trans (((cell_far (p:=⟨gb270,_,none⟩) NB245_270.out _).trans (((cell_far (p:=⟨gb270,_,none⟩) NB245_270.out _).trans (((cell_far (p:=⟨gb270,_,none⟩) NB245_270.out _).trans (hHeld.2.1)))))))),((cell_far (p:=⟨gb270,_,none⟩) NB245_270.out _).trans (((cell_far (p:=⟨gb270,_,none⟩) NB245_270.out _).trans (((cell_far (p:=⟨gb270,_,none⟩) NB245_270.out _).trans (((cell_far (p:=⟨gb270,_,none⟩) NB245_270.out _).trans (hHeld.2.2.1)))))))),((cell_far (p:=⟨gb270,_,none⟩) NB245_270.out _).trans (((cell_far (p:=⟨gb270,_,none⟩) NB245_270.out _).trans (((cell_far (p:=⟨gb270,_,none⟩) NB245_270.out _).trans (((cell_far (p:=⟨gb270,_,none⟩) NB245_270.out _).trans (hHeld.2.2.2))))))))⟩ (fun hHeld=>?_)
       clear hK K
       refine done_ (done_of HT_.out (by kernel_rfl)) ?_
       have hnb44:=NB270_245.out
       have hnc44:=NB245_270.out
       have hnb45:=NB270_246.out
       have hnc45:=NB246_270.out
       have hcz46_0:w38.cell? ⟨gb270,0,none⟩ = some (.string (⟨#[]⟩:ByteArray)):=(blk_cell BK270.out 0).trans rfl
       have hcz46_1:w38.cell? ⟨gb270,1,none⟩ = some (.slice none 0 0):=(blk_cell BK270.out 1).trans rfl
       have hcz46_2:w38.cell? ⟨gb270,2,none⟩ = some (.bool false):=(blk_cell BK270.out 2).trans rfl
       have hcz46_3:w38.cell? ⟨gb270,3,none⟩ = some (.string (⟨#[]⟩:ByteArray)):=(blk_cell BK270.out 3).trans rfl
       have hfz46_0:=blk_frozen BK270.out 0
       have hfz46_1:=blk_frozen BK270.out 1
       have hfz46_2:=blk_frozen BK270.out 2
       have hfz46_3:=blk_frozen BK270.out 3
       try go_wp2_with (first|(go_at_call 29;(with_reducible refine (spec_AddrOk.calls k1 a0_0 _ _ t267 t249 t265 true _ ?side1 ?side2 A29.out).mono ?_);(case side1=>refine (Kd.R_reads' (e:=9) (base:=w.heap.size) (ok:=fun k_=>(some k_ ≠ (.slice Ao33 x8_1.length co33:Value).ownBlock ∧ some k_ ≠ (.slice Ao31 t256.length co31:Value).ownBlock)) (n:=t267.length) (c:=co39) ?_).2.2;exact (by (with_reducible repeat (first|apply Kd.R_alloc|apply Kd.R_drewN|apply Kd.R_drew));exact (Kd.R_mono (Kd.R_far (p:=⟨gb270,3,none⟩) (Kd.R_far (p:=⟨gb270,2,none⟩) (Kd.R_far (p:=⟨gb270,1,none⟩) (Kd.R_far (p:=⟨gb270,0,none⟩) (Kd.R_types HO269.out BK270.out (by decide)) (fun _ hk=>hk.2) (.string a0_0)) (fun _ hk=>hk.2) (.slice Ao39 t267.length co39)) (fun _ hk=>hk.2) (.bool t249)) (fun _ hk=>hk.2) (.string t265)) (fun _ h_=>h_.1))));(case side2=>exact (Kd.R_reads' HO269.out).2.1);rintro e w47 ⟨rfl,hb⟩;have n0_:=Aside0.mk (Kd.R_below (by (with_reducible repeat (first|apply Kd.R_alloc|apply Kd.R_drewN|apply Kd.R_drew));exact (Kd.R_mono (Kd.R_far (p:=⟨gb270,3,none⟩) (Kd.R_far (p:=⟨gb270,2,none⟩) (Kd.R_far (p:=⟨gb270,1,none⟩) (Kd.R_far (p:=⟨gb270,0,none⟩) (Kd.R_types HO_8.out BK270.out (by decide)) (fun _ hk=>hk.2) (.string a0_0)) (fun _ hk=>hk.2) (.slice Ao39 t267.length co39)) (fun _ hk=>hk.2) (.bool t249)) (fun _ hk=>hk.2) (.string t265)) (fun _ h_=>h_.1))) hb);have n1_:=Aside0.mk (Kd.R_below (by (with_reducible repeat (first|apply Kd.R_alloc|apply Kd.R_drewN|apply Kd.R_drew));exact (Kd.R_mono (Kd.R_far (p:=⟨gb270,3,none⟩) (Kd.R_far (p:=⟨gb270,2,none⟩) (Kd.R_far (p:=⟨gb270,1,none⟩) (Kd.R_far (p:=⟨gb270,0,none⟩) (Kd.R_types HO_9.out BK270.out (by decide)) (fun _ hk=>hk.2) (.string a0_0)) (fun _ hk=>hk.2) (.slice Ao39 t267.length co39)) (fun _ hk=>hk.2) (.bool t249)) (fun _ hk=>hk.2) (.string t265)) (fun _ h_=>h_.1))) hb);have n2_:=Aside0.mk (Kd.R_below (by (with_reducible repeat (first|apply Kd.R_alloc|apply Kd.R_drewN|apply Kd.R_drew));exact (Kd.R_mono (Kd.R_far (p:=⟨gb270,3,none⟩) (Kd.R_far (p:=⟨gb270,2,none⟩) (Kd.R_far (p:=⟨gb270,1,none⟩) (Kd.R_far (p:=⟨gb270,0,none⟩) (Kd.R_types HO269.out BK270.out (by decide)) (fun _ hk=>hk.2) (.string a0_0)) (fun _ hk=>hk.2) (.slice Ao39 t267.length co39)) (fun _ hk=>hk.2) (.bool t249)) (fun _ hk=>hk.2) (.string t265)) (fun _ h_=>h_.1))) hb);have n3_:=Aside0.mk (blk_below (g:=gb245) (o:=.cells #[.string a0_0, .slice A0_1 l0_1.length c0_1, .bool a0_2, .string a0_3] 24 (0,0)) (by (with_reducible repeat (first|refine blk_drewN ?_ _|refine blk_drew ?_|refine blk_alloc ?_ _));refine blk_far ?_ NB245_270.out _;(with_reducible repeat (first|refine blk_drewN ?_ _|refine blk_drew ?_|refine blk_alloc ?_ _));refine blk_far ?_ NB245_270.out _;(with_reducible repeat (first|refine blk_drewN ?_ _|refine blk_drew ?_|refine blk_alloc ?_ _));refine blk_far ?_ NB245_270.out _;(with_reducible repeat (first|refine blk_drewN ?_ _|refine blk_drew ?_|refine blk_alloc ?_ _));refine blk_far ?_ NB245_270.out _;(with_reducible repeat (first|refine blk_drewN ?_ _|refine blk_drew ?_|refine blk_alloc ?_ _));exact BK245.out) hb);have n4_:=Aside0.mk (blk_below (g:=gb246) (o:=.cells #[.string x247000_1, .slice none 0 0, .bool x247002_1, .string x247003_1] 24 (0,0)) (by (with_reducible repeat (first|refine blk_drewN ?_ _|refine blk_drew ?_|refine blk_alloc ?_ _));refine blk_far ?_ NB246_270.out _;(with_reducible repeat (first|refine blk_drewN ?_ _|refine blk_drew ?_|refine blk_alloc ?_ _));refine blk_far ?_ NB246_270.out _;(with_reducible repeat (first|refine blk_drewN ?_ _|refine blk_drew ?_|refine blk_alloc ?_ _));refine blk_far ?_ NB246_270.out _;(with_reducible repeat (first|refine blk_drewN ?_ _|refine blk_drew ?_|refine blk_alloc ?_ _));refine blk_far ?_ NB246_270.out _;(with_reducible repeat (first|refine blk_drewN ?_ _|refine blk_drew ?_|refine blk_alloc ?_ _));exact BK246.out) hb);have n5_:=Aside0.mk (blk_below (g:=gb270) (o:=.cells #[.string a0_0, .slice Ao39 t267.length co39, .bool t249, .string t265] 24 (0,0)) (by (with_reducible repeat (first|refine blk_drewN ?_ _|refine blk_drew ?_|refine blk_alloc ?_ _));refine blk_put (cs:=#[.string a0_0, .slice Ao39 t267.length co39, .bool t249, .string (⟨#[]⟩:ByteArray)]) ?_ 3 _ rfl;(with_reducible repeat (first|refine blk_drewN ?_ _|refine blk_drew ?_|refine blk_alloc ?_ _));refine blk_put (cs:=#[.string a0_0, .slice Ao39 t267.length co39, .bool false, .string (⟨#[]⟩:ByteArray)]) ?_ 2 _ rfl;(with_reducible repeat (first|refine blk_drewN ?_ _|refine blk_drew ?_|refine blk_alloc ?_ _));refine blk_put (cs:=#[.string a0_0, .slice none 0 0, .bool false, .string (⟨#[]⟩:ByteArray)]) ?_ 1 _ rfl;(with_reducible repeat (first|refine blk_drewN ?_ _|refine blk_drew ?_|refine blk_alloc ?_ _));refine blk_put (cs:=#[.string (⟨#[]⟩:ByteArray), .slice none 0 0, .bool false, .string (⟨#[]⟩:ByteArray)]) ?_ 0 _ rfl;(with_reducible repeat (first|refine blk_drewN ?_ _|refine blk_drew ?_|refine blk_alloc ?_ _));exact BK270.out) hb);have n6_:=Aside0.mk (below_step (by repeat (first|(with_reducible first|exact HB.out|apply below_alloc|apply pw_below_drewN|apply below_drew1|refine below_set ?_ GE245.out|refine below_set ?_ GE246.out|refine below_set ?_ GE270.out)|exact HB.out)) hb);clear HO_8;clear HO_9;clear HO269;clear BK245;clear BK246;clear BK270;clear HB;have HO_8:=n0_;have HO_9:=n1_;have HO269:=n2_;have BK245:=n3_;have BK246:=n4_;have BK270:=n5_;have HB:=n6_;clear n0_ n1_ n2_ n3_ n4_ n5_ n6_;(try clear hb);(try clear hb2);(try clear hk);(try clear hi);have hcz48_0:w47.cell? ⟨gb270,0,none⟩ = some (.string a0_0):=(blk_cell BK270.out 0).trans rfl;have hcz48_1:w47.cell? ⟨gb270,1,none⟩ = some (.slice Ao39 t267.length co39):=(blk_cell BK270.out 1).trans rfl;have hcz48_2:w47.cell? ⟨gb270,2,none⟩ = some (.bool t249):=(blk_cell BK270.out 2).trans rfl;have hcz48_3:w47.cell? ⟨gb270,3,none⟩ = some (.string t265):=(blk_cell BK270.out 3).trans rfl;have hfz48_0:=blk_frozen BK270.out 0;have hfz48_1:=blk_frozen BK270.out 1;have hfz48_2:=blk_frozen BK270.out 2;have hfz48_3:=blk_frozen BK270.out 3;have hnb49:=NB246_245.out;have hnc49:=NB245_246.out;have hcz50_0:w47.cell? ⟨gb246,0,none⟩ = some (.string x247000_1):=(blk_cell BK246.out 0).trans rfl;have hcz50_1:w47.cell? ⟨gb246,1,none⟩ = some (.slice none 0 0):=(blk_cell BK246.out 1).trans rfl;have hcz50_2:w47.cell? ⟨gb246,2,none⟩ = some (.bool x247002_1):=(blk_cell BK246.out 2).trans rfl;have hcz50_3:w47.cell? ⟨gb246,3,none⟩ = some (.string x247003_1):=(blk_cell BK246.out 3).trans rfl;have hfz50_0:=blk_frozen BK246.out 0;have hfz50_1:=blk_frozen BK246.out 1;have hfz50_2:=blk_frozen BK246.out 2;have hfz50_3:=blk_frozen BK246.out 3))
       refine bodyPost_ret (results_ct rfl _ _ gb246 24 #[.string a0_0, .slice Ao39 t267.length co39, .bool t249, .string t265] (0,0) _ rfl (by (with_reducible repeat (first|refine blk_drewN ?_ _|refine blk_drew ?_|refine blk_alloc ?_ _));refine blk_put (cs:=#[.string a0_0, .slice Ao39 t267.length co39, .bool t249, .string x247003_1]) ?_ 3 _ rfl;(with_reducible repeat (first|refine blk_drewN ?_ _|refine blk_drew ?_|refine blk_alloc ?_ _));refine blk_put (cs:=#[.string a0_0, .slice Ao39 t267.length co39, .bool x247002_1, .string x247003_1]) ?_ 2 _ rfl;(with_reducible repeat (first|refine blk_drewN ?_ _|refine blk_drew ?_|refine blk_alloc ?_ _));refine blk_put (cs:=#[.string a0_0, .slice none 0 0, .bool x247002_1, .string x247003_1]) ?_ 1 _ rfl;(with_reducible repeat (first|refine blk_drewN ?_ _|refine blk_drew ?_|refine blk_alloc ?_ _));refine blk_put (cs:=#[.string x247000_1, .slice none 0 0, .bool x247002_1, .string x247003_1]) ?_ 0 _ rfl;(with_reducible repeat (first|refine blk_drewN ?_ _|refine blk_drew ?_|refine blk_alloc ?_ _));exact BK246.out) Tryd.underlying24 rfl (by kernel_rfl)) rfl ?_
       exact ⟨_,by first|rfl|(simp <;> rfl)|(simp [*] <;> rfl),by (with_reducible repeat (first|apply Kd.R_alloc|apply Kd.R_drewN|apply Kd.R_drew));exact Kd.R_mono (Kd.R_far (p:=⟨gb246,3,none⟩) (Kd.R_far (p:=⟨gb246,2,none⟩) (Kd.R_far (p:=⟨gb246,1,none⟩) (Kd.R_far (p:=⟨gb246,0,none⟩) (Kd.R_types HO269.out BK246.out (by decide)) (fun _ hk=>hk.2) (.string a0_0)) (fun _ hk=>hk.2) (.slice Ao39 t267.length co39)) (fun _ hk=>hk.2) (.bool t249)) (fun _ hk=>hk.2) (.string t265)) (fun _ hk=>trivial),by repeat (first|(with_reducible first|exact HB.out|apply below_alloc|apply pw_below_drewN|apply below_drew1|refine below_set ?_ GE245.out|refine below_set ?_ GE246.out|refine below_set ?_ GE270.out)|exact HB.out)⟩
      ·replace c30:=Bool.eq_false_iff.mpr c30
       subst c30
       have H1:(some ((⟨#[]⟩:ByteArray),([]:List ByteArray),false,(⟨#[]⟩:ByteArray),false)) = some (r1,r2,r3,r4,r5):=by rw [if_neg (show ¬ (false = true) by decide)] at H;exact H
       clear H
       have H:=H1
       clear H1
       simp only [Option.some.injEq,Prod.mk.injEq] at H
       obtain ⟨rfl,rfl,rfl,rfl,rfl⟩:=H
       obtain ⟨Ao51,co51,eo51⟩:=Kd.R_slice HO_9.out
       subst eo51
       try go_wp2_with (first|((with_reducible refine gate_callee (f:=54) rfl ?_);refine goesL_ (some 51) rfl rfl Tryd.func54 (by kernel_rfl) rfl #[.string t248] rfl (by (try simp only [List.map_toArray,List.map_cons,List.map_nil]);first|done|rfl|(simp only [List.length_drop,List.length_take];rfl)) ?_;(with_reducible refine (spec_EscNorm.calls k1 t248 t265 true _ A26.out).mono ?_);rintro e w52 ⟨rfl,hb⟩;refine ⟨_,rfl,?_⟩;have n0_:=Aside0.mk (Kd.R_below (by (with_reducible repeat (first|apply Kd.R_alloc|apply Kd.R_drewN|apply Kd.R_drew));exact HO_8.out) hb);have n1_:=Aside0.mk (Kd.R_below (by (with_reducible repeat (first|apply Kd.R_alloc|apply Kd.R_drewN|apply Kd.R_drew));exact HO_9.out) hb);have n2_:=Aside0.mk (blk_below (g:=gb245) (o:=.cells #[.string a0_0, .slice A0_1 l0_1.length c0_1, .bool a0_2, .string a0_3] 24 (0,0)) (by (with_reducible repeat (first|refine blk_drewN ?_ _|refine blk_drew ?_|refine blk_alloc ?_ _));exact BK245.out) hb);have n3_:=Aside0.mk (blk_below (g:=gb246) (o:=.cells #[.string x247000_1, .slice none 0 0, .bool x247002_1, .string x247003_1] 24 (0,0)) (by (with_reducible repeat (first|refine blk_drewN ?_ _|refine blk_drew ?_|refine blk_alloc ?_ _));exact BK246.out) hb);have n4_:=Aside0.mk (below_step (by repeat (first|(with_reducible first|exact HB.out|apply below_alloc|apply pw_below_drewN|apply below_drew1|refine below_set ?_ GE245.out|refine below_set ?_ GE246.out)|exact HB.out)) hb);clear HO_8;clear HO_9;clear BK245;clear BK246;clear HB;have HO_8:=n0_;have HO_9:=n1_;have BK245:=n2_;have BK246:=n3_;have HB:=n4_;clear n0_ n1_ n2_ n3_ n4_;(try clear hb);(try clear hb2);(try clear hk);(try clear hi);obtain ⟨Ao53,co53,eo53⟩:=Kd.R_slice HO_8.out;subst eo53))
       have n0_:=Aside0.mk (Kd.R_drew HO_8.out)
       have n1_:=Aside0.mk (Kd.R_drew HO_9.out)
       have n2_:=Aside0.mk (blk_drew BK245.out)
       have n3_:=Aside0.mk (blk_drew BK246.out)
       have n4_:=Aside0.mk (below_drew1 HB.out)
       clear HO_8
       clear HO_9
       clear BK245
       clear BK246
       clear HB
       have HO_8:=n0_
       have HO_9:=n1_
       have BK245:=n2_
       have BK246:=n3_
       have HB:=n4_
       clear n0_ n1_ n2_ n3_ n4_
       refine start_ (n:=9) (S:=fun w'=>w'.cell? ⟨gb245,0,none⟩ = some (.string a0_0) ∧ w'.cell? ⟨gb245,1,none⟩ = some (.slice A0_1 l0_1.length c0_1) ∧ w'.cell? ⟨gb245,2,none⟩ = some (.bool a0_2) ∧ w'.cell? ⟨gb245,3,none⟩ = some (.string a0_3)) (ds:=[]) #[false,false,false,false,false,false,false,false,false] (by kernel_rfl) rfl rfl ⟨(blk_cell BK245.out 0).trans rfl,(blk_cell BK245.out 1).trans rfl,(blk_cell BK245.out 2).trans rfl,(blk_cell BK245.out 3).trans rfl⟩ (fun hHeld=>?_);refine with_tabW spec_l1Way.tab12 spec_l1Way.bits12 (fun HT_ HW_=>?_)
       generalize w52.drew = w54 at HO_8 HO_9 BK245 BK246 HB hHeld ⊢
       refine pure_ (i:=0) (N:=some 54) (v:=?_) (a':=?_) #[true,false,false,false,false,false,false,false,false] rfl rfl (any_of HT_.out (by kernel_rfl)) (fun _ _ _ h=>h) (Or.inl ⟨by rfl,?_⟩) ?_ ?_
       rotate_left
       ·intro w'
        go_simp
        with_reducible rfl
       rotate_left
       ·simp only [Act.put,List.setIfInBounds_toArray,List.set_cons_zero,List.set_cons_succ,i64_w,i32_w]
        rfl
       refine pure_ (i:=2) (N:=some 56) (v:=?_) (a':=?_) #[true,false,true,false,false,false,false,false,false] rfl rfl (any_of HT_.out (by kernel_rfl)) (fun _ _ _ h=>h) (Or.inl ⟨by rfl,?_⟩) ?_ ?_
       rotate_left
       ·intro w'
        go_simp
        with_reducible rfl
       rotate_left
       ·simp only [Act.put,List.setIfInBounds_toArray,List.set_cons_zero,List.set_cons_succ,i64_w,i32_w]
        rfl
       refine pure_ (i:=4) (N:=some 58) (v:=?_) (a':=?_) #[true,false,true,false,true,false,false,false,false] rfl rfl (any_of HT_.out (by kernel_rfl)) (fun _ _ _ h=>h) (Or.inl ⟨by rfl,?_⟩) ?_ ?_
       rotate_left
       ·intro w'
        go_simp
        with_reducible rfl
       rotate_left
       ·simp only [Act.put,List.setIfInBounds_toArray,List.set_cons_zero,List.set_cons_succ,i64_w,i32_w]
        rfl
       refine pure_ (i:=5) (N:=some 59) (v:=?_) (a':=?_) #[true,false,true,false,true,true,false,false,false] rfl rfl (any_of HT_.out (by kernel_rfl)) (fun _ _ _ h=>h) (Or.inl ⟨by rfl,?_⟩) ?_ ?_
       rotate_left
       ·intro w'
        go_simp
        with_reducible rfl
       rotate_left
       ·simp only [Act.put,List.setIfInBounds_toArray,List.set_cons_zero,List.set_cons_succ,i64_w,i32_w]
        rfl
       refine take_ (i:=1) (N:=some 55) (v:=?_) (a':=?_) #[true,true,true,false,true,true,false,false,false] rfl rfl (take_ofW HT_.out HW_.out (by kernel_rfl)) (fun _ _ _ h=>h) (Or.inl ⟨by rfl,?_⟩) hHeld ?_ ?_
       rotate_left
       ·rintro w' ⟨s0,s1,s2,s3⟩
        go_simp
        with_reducible rfl
       rotate_left
       ·simp only [Act.put,List.setIfInBounds_toArray,List.set_cons_zero,List.set_cons_succ,i64_w,i32_w]
        rfl
       refine join_ (σ:=Value × Nat) 1 #[true,true,true,true,true,true,true,true,false] (fun s_=>[(57,s_.1),(15, .pointer (some ⟨s_.2,0,none⟩)),(60, .agg #[.string a0_0,s_.1, .bool t249, .string t265])]) (fun s_ w'=>(w'.cell? ⟨gb245,0,none⟩ = some (.string a0_0) ∧ w'.cell? ⟨gb245,1,none⟩ = some (.slice A0_1 l0_1.length c0_1) ∧ w'.cell? ⟨gb245,2,none⟩ = some (.bool a0_2) ∧ w'.cell? ⟨gb245,3,none⟩ = some (.string a0_3)) ∧ (Kd.R Kd.string 9 w' w.heap.size (fun k_=>some k_ ≠ (.slice Ao53 x8_1.length co53:Value).ownBlock ∧ some k_ ≠ (.slice Ao51 t256.length co51:Value).ownBlock) s_.1 t267) ∧ (Kd.R Kd.string 9 w' w.heap.size (fun k_=>some k_ ≠ (s_.1:Value).ownBlock ∧ some k_ ≠ (.slice Ao51 t256.length co51:Value).ownBlock) (.slice Ao53 x8_1.length co53) x8_1) ∧ (Kd.R Kd.string 9 w' w.heap.size (fun k_=>some k_ ≠ (s_.1:Value).ownBlock ∧ some k_ ≠ (.slice Ao53 x8_1.length co53:Value).ownBlock) (.slice Ao51 t256.length co51) t256) ∧ (w'.heap[gb245]? = some (.cells #[.string a0_0, .slice A0_1 l0_1.length c0_1, .bool a0_2, .string a0_3] 24 (0,0))) ∧ (w'.heap[gb246]? = some (.cells #[.string x247000_1, .slice none 0 0, .bool x247002_1, .string x247003_1] 24 (0,0))) ∧ (w'.heap[s_.2]? = some (.cells #[.string (⟨#[]⟩:ByteArray), .slice none 0 0, .bool false, .string (⟨#[]⟩:ByteArray)] 24 (0,0))) ∧ (w.heap.size ≤ s_.2) ∧ (w.heap.size ≤ s_.2) ∧ (gb245 ≠ s_.2) ∧ (s_.2 ≠ gb245) ∧ (gb246 ≠ s_.2) ∧ (s_.2 ≠ gb246) ∧ (Below w.heap.size w w')) ?_ ?_
       rotate_left
       ·intro hCont
        refine two_ (i:=3) (j:=7) (Ni:=some 57) (Nj:=some 15) #[true,true,true,true,true,true,false,false,false] #[true,true,true,false,true,true,false,true,false] rfl rfl rfl rfl (two_of HT_.out (by kernel_rfl)) (by decide) (by decide) (fun K hK=>?_) (fun K hK=>?_)
        ·skip
         refine goes_ Tryd.func55 (by kernel_rfl) rfl #[.slice Ao53 x8_1.length co53] (by rfl) rfl rfl (by (try simp only [List.map_toArray,List.map_cons,List.map_nil]);first|done|rfl|(simp only [List.length_drop,List.length_take];rfl)) ?_
         with_reducible refine (spec_PathClean.calls k1 _ _ x8_1 t267 _ ?side1 ?side2 A27.out).mono ?_
         (case side1=>repeat (first|exact (Kd.R_reads' HO_8.out).2.2|(with_reducible refine Kd.C_alloc ?_ _)|(with_reducible refine Kd.C_drewN ?_ _)|(with_reducible refine Kd.C_drew ?_)))
         (case side2=>exact (Kd.R_reads' HO_8.out).2.1)
         rintro e w55 ⟨v268,rfl,ho0,hb⟩
         refine ⟨_,rfl,?_⟩
         have n0_:=Aside0.mk (Kd.R_elder' (by (with_reducible repeat (first|apply Kd.R_alloc|apply Kd.R_drewN|apply Kd.R_drew));exact HO_8.out) (Kd.R_base ho0) hb)
         have n1_:=Aside0.mk (Kd.R_elder' (by (with_reducible repeat (first|apply Kd.R_alloc|apply Kd.R_drewN|apply Kd.R_drew));exact HO_9.out) (Kd.R_base ho0) hb)
         have n2_:=Aside0.mk (Kd.R_lower (Kd.R_new' (Kd.R_new' ho0 (Kd.R_lt (by (with_reducible repeat (first|apply Kd.R_alloc|apply Kd.R_drewN|apply Kd.R_drew));exact HO_8.out))) (Kd.R_lt (by (with_reducible repeat (first|apply Kd.R_alloc|apply Kd.R_drewN|apply Kd.R_drew));exact HO_9.out))) (below_size (by repeat (first|(with_reducible first|exact HB.out|apply below_alloc|apply pw_below_drewN|apply below_drew1|refine below_set ?_ GE245.out|refine below_set ?_ GE246.out)|exact HB.out))))
         have n3_:=Aside0.mk (blk_below (g:=gb245) (o:=.cells #[.string a0_0, .slice A0_1 l0_1.length c0_1, .bool a0_2, .string a0_3] 24 (0,0)) (by (with_reducible repeat (first|refine blk_drewN ?_ _|refine blk_drew ?_|refine blk_alloc ?_ _));exact BK245.out) hb)
         have n4_:=Aside0.mk (blk_below (g:=gb246) (o:=.cells #[.string x247000_1, .slice none 0 0, .bool x247002_1, .string x247003_1] 24 (0,0)) (by (with_reducible repeat (first|refine blk_drewN ?_ _|refine blk_drew ?_|refine blk_alloc ?_ _));exact BK246.out) hb)
         have n5_:=Aside0.mk (below_step (by repeat (first|(with_reducible first|exact HB.out|apply below_alloc|apply pw_below_drewN|apply below_drew1|refine below_set ?_ GE245.out|refine below_set ?_ GE246.out)|exact HB.out)) hb)
         clear HO_8
         clear HO_9
         clear BK245
         clear BK246
         clear HB
         have HO_8:=n0_
         have HO_9:=n1_
         have HO269:=n2_
         have BK245:=n3_
         have BK246:=n4_
         have HB:=n5_
         clear n0_ n1_ n2_ n3_ n4_ n5_
         (try clear hb)
         (try clear hb2)
         (try clear hk)
         (try clear hi)
         (try clear ho0)
         obtain ⟨Ao56,co56,eo56⟩:=Kd.R_slice HO269.out
         (first|subst eo56|(injection eo56 with f1_ f2_ f3_;have f4_:=f1_.symm;have f5_:=f3_.symm;clear f1_ f2_ f3_;subst f4_;subst f5_))
         refine hK.out _ _ ⟨(blk_cell BK245.out 0).trans rfl,(blk_cell BK245.out 1).trans rfl,(blk_cell BK245.out 2).trans rfl,(blk_cell BK245.out 3).trans rfl⟩ (fun hHeld=>?_)
         clear hK K
         refine norm_ (a':=?_) ?_ ?_
         rotate_left
         ·show Act.put _ (some 57) _ = _
          simp only [Act.put,List.setIfInBounds_toArray,List.set_cons_zero,List.set_cons_succ,i64_w,i32_w]
          rfl
         refine pure_ (i:=6) (N:=some 60) (v:=?_) (a':=?_) #[true,true,true,true,true,true,true,false,false] rfl rfl (any_of HT_.out (by kernel_rfl)) (fun _ _ _ h=>h) (Or.inl ⟨by rfl,?_⟩) ?_ ?_
         rotate_left
         ·intro w'
          go_simp
          with_reducible rfl
         rotate_left
         ·simp only [Act.put,List.setIfInBounds_toArray,List.set_cons_zero,List.set_cons_succ,i64_w,i32_w]
          rfl
         refine one_ (i:=7) (N:=some 15) #[true,true,true,true,true,true,true,true,false] rfl rfl (one_of HT_.out (by kernel_rfl)) (by decide) (fun K hK=>?_)
         refine box_step ?hg (N:=15) ?hd (cs:=#[.string (⟨#[]⟩:ByteArray), .slice none 0 0, .bool false, .string (⟨#[]⟩:ByteArray)]) (t:=24) ?hr ?_;(case hd=>rfl);(case hg=>rfl);(case hr=>first|(go_simp;done)|(go_simp;rfl))
         intro gb270 hg w57 hbox hb
         have n0_:=Aside0.mk (Kd.R_below (by (with_reducible repeat (first|apply Kd.R_alloc|apply Kd.R_drewN|apply Kd.R_drew));exact HO_8.out) hb)
         have n1_:=Aside0.mk (Kd.R_below (by (with_reducible repeat (first|apply Kd.R_alloc|apply Kd.R_drewN|apply Kd.R_drew));exact HO_9.out) hb)
         have n2_:=Aside0.mk (Kd.R_below (by (with_reducible repeat (first|apply Kd.R_alloc|apply Kd.R_drewN|apply Kd.R_drew));exact HO269.out) hb)
         have n3_:=Aside0.mk (blk_below (g:=gb245) (o:=.cells #[.string a0_0, .slice A0_1 l0_1.length c0_1, .bool a0_2, .string a0_3] 24 (0,0)) (by (with_reducible repeat (first|refine blk_drewN ?_ _|refine blk_drew ?_|refine blk_alloc ?_ _));exact BK245.out) hb)
         have n4_:=Aside0.mk (blk_below (g:=gb246) (o:=.cells #[.string x247000_1, .slice none 0 0, .bool x247002_1, .string x247003_1] 24 (0,0)) (by (with_reducible repeat (first|refine blk_drewN ?_ _|refine blk_drew ?_|refine blk_alloc ?_ _));exact BK246.out) hb)
         have n5_:=Aside0.mk (below_step (by repeat (first|(with_reducible first|exact HB.out|apply below_alloc|apply pw_below_drewN|apply below_drew1|refine below_set ?_ GE245.out|refine below_set ?_ GE246.out)|exact HB.out)) hb)
         have n6_:=Aside0.mk (hbox)
         have n7_:=Aside0.mk ((by rw [hg];exact (below_size (by repeat (first|(with_reducible first|exact HB.out|apply below_alloc|apply pw_below_drewN|apply below_drew1|refine below_set ?_ GE245.out|refine below_set ?_ GE246.out)|exact HB.out))):w.heap.size ≤ gb270))
         have n8_:=Aside0.mk ((by rw [hg];exact (below_size (by repeat (first|(with_reducible first|exact HB.out|apply below_alloc|apply pw_below_drewN|apply below_drew1|refine below_set ?_ GE245.out|refine below_set ?_ GE246.out)|exact HB.out))):w.heap.size ≤ gb270))
         have n9_:=Aside0.mk ((by rw [hg];exact Nat.ne_of_lt (blk_lt (g:=gb245) (o:=.cells #[.string a0_0, .slice A0_1 l0_1.length c0_1, .bool a0_2, .string a0_3] 24 (0,0)) (by (with_reducible repeat (first|refine blk_drewN ?_ _|refine blk_drew ?_|refine blk_alloc ?_ _));exact BK245.out)):gb245 ≠ gb270))
         have n10_:=Aside0.mk ((by rw [hg];exact Nat.ne_of_gt (blk_lt (g:=gb245) (o:=.cells #[.string a0_0, .slice A0_1 l0_1.length c0_1, .bool a0_2, .string a0_3] 24 (0,0)) (by (with_reducible repeat (first|refine blk_drewN ?_ _|refine blk_drew ?_|refine blk_alloc ?_ _));exact BK245.out)):gb270 ≠ gb245))
         have n11_:=Aside0.mk ((by rw [hg];exact Nat.ne_of_lt (blk_lt (g:=gb246) (o:=.cells #[.string x247000_1, .slice none 0 0, .bool x247002_1, .string x247003_1] 24 (0,0)) (by (with_reducible repeat (first|refine blk_drewN ?_ _|refine blk_drew ?_|refine blk_alloc ?_ _));exact BK246.out)):gb246 ≠ gb270))
         have n12_:=Aside0.mk ((by rw [hg];exact Nat.ne_of_gt (blk_lt (g:=gb246) (o:=.cells #[.string x247000_1, .slice none 0 0, .bool x247002_1, .string x247003_1] 24 (0,0)) (by (with_reducible repeat (first|refine blk_drewN ?_ _|refine blk_drew ?_|refine blk_alloc ?_ _));exact BK246.out)):gb270 ≠ gb246))
         clear HO_8
         clear HO_9
         clear HO269
         clear BK245
         clear BK246
         clear HB
         have HO_8:=n0_
         have HO_9:=n1_
         have HO269:=n2_
         have BK245:=n3_
         have BK246:=n4_
         have HB:=n5_
         have BK270:=n6_
         have GW270:=n7_
         have GE270:=n8_
         have NB245_270:=n9_
         have NB270_245:=n10_
         have NB246_270:=n11_
         have NB270_246:=n12_
         clear n0_ n1_ n2_ n3_ n4_ n5_ n6_ n7_ n8_ n9_ n10_ n11_ n12_
         clear hb hbox hg
         refine hK.out _ _ ⟨(blk_cell BK245.out 0).trans rfl,(blk_cell BK245.out 1).trans rfl,(blk_cell BK245.out 2).trans rfl,(blk_cell BK245.out 3).trans rfl⟩ (fun hHeld=>?_)
         clear hK K
         refine norm_ (a':=?_) ?_ ?_
         rotate_left
         ·show Act.put _ (some 15) _ = _
          simp only [Act.put,List.setIfInBounds_toArray,List.set_cons_zero,List.set_cons_succ,i64_w,i32_w]
          rfl
         exact norm_ (by simp only [putAll,Act.put,List.setIfInBounds_toArray,List.set_cons_zero,List.set_cons_succ]) (hCont (.slice Ao56 t267.length co56,gb270) _ ⟨hHeld,(by (with_reducible repeat (first|apply Kd.R_alloc|apply Kd.R_drewN|apply Kd.R_drew));exact Kd.R_mono HO269.out (fun _ hk=>⟨hk.1.2,hk.2⟩)),(by (with_reducible repeat (first|apply Kd.R_alloc|apply Kd.R_drewN|apply Kd.R_drew));exact Kd.R_mono HO_8.out (fun _ hk=>⟨hk.2,hk.1⟩)),(by (with_reducible repeat (first|apply Kd.R_alloc|apply Kd.R_drewN|apply Kd.R_drew));exact Kd.R_mono HO_9.out (fun _ hk=>⟨hk.2,hk.1⟩)),(by (with_reducible repeat (first|refine blk_drewN ?_ _|refine blk_drew ?_|refine blk_alloc ?_ _));exact BK245.out),(by (with_reducible repeat (first|refine blk_drewN ?_ _|refine blk_drew ?_|refine blk_alloc ?_ _));exact BK246.out),(by (with_reducible repeat (first|refine blk_drewN ?_ _|refine blk_drew ?_|refine blk_alloc ?_ _));exact BK270.out),GW270.out,GE270.out,NB245_270.out,NB270_245.out,NB246_270.out,NB270_246.out,(by repeat (first|(with_reducible first|exact HB.out|apply below_alloc|apply pw_below_drewN|apply below_drew1|refine below_set ?_ GE245.out|refine below_set ?_ GE246.out|refine below_set ?_ GE270.out)|exact HB.out))⟩)
        ·skip
         refine box_step ?hg (N:=15) ?hd (cs:=#[.string (⟨#[]⟩:ByteArray), .slice none 0 0, .bool false, .string (⟨#[]⟩:ByteArray)]) (t:=24) ?hr ?_;(case hd=>rfl);(case hg=>rfl);(case hr=>first|(go_simp;done)|(go_simp;rfl))
         intro gb270 hg w55 hbox hb
         have n0_:=Aside0.mk (Kd.R_below (by (with_reducible repeat (first|apply Kd.R_alloc|apply Kd.R_drewN|apply Kd.R_drew));exact HO_8.out) hb)
         have n1_:=Aside0.mk (Kd.R_below (by (with_reducible repeat (first|apply Kd.R_alloc|apply Kd.R_drewN|apply Kd.R_drew));exact HO_9.out) hb)
         have n2_:=Aside0.mk (blk_below (g:=gb245) (o:=.cells #[.string a0_0, .slice A0_1 l0_1.length c0_1, .bool a0_2, .string a0_3] 24 (0,0)) (by (with_reducible repeat (first|refine blk_drewN ?_ _|refine blk_drew ?_|refine blk_alloc ?_ _));exact BK245.out) hb)
         have n3_:=Aside0.mk (blk_below (g:=gb246) (o:=.cells #[.string x247000_1, .slice none 0 0, .bool x247002_1, .string x247003_1] 24 (0,0)) (by (with_reducible repeat (first|refine blk_drewN ?_ _|refine blk_drew ?_|refine blk_alloc ?_ _));exact BK246.out) hb)
         have n4_:=Aside0.mk (below_step (by repeat (first|(with_reducible first|exact HB.out|apply below_alloc|apply pw_below_drewN|apply below_drew1|refine below_set ?_ GE245.out|refine below_set ?_ GE246.out)|exact HB.out)) hb)
         have n5_:=Aside0.mk (hbox)
         have n6_:=Aside0.mk ((by rw [hg];exact (below_size (by repeat (first|(with_reducible first|exact HB.out|apply below_alloc|apply pw_below_drewN|apply below_drew1|refine below_set ?_ GE245.out|refine below_set ?_ GE246.out)|exact HB.out))):w.heap.size ≤ gb270))
         have n7_:=Aside0.mk ((by rw [hg];exact (below_size (by repeat (first|(with_reducible first|exact HB.out|apply below_alloc|apply pw_below_drewN|apply below_drew1|refine below_set ?_ GE245.out|refine below_set ?_ GE246.out)|exact HB.out))):w.heap.size ≤ gb270))
         have n8_:=Aside0.mk ((by rw [hg];exact Nat.ne_of_lt (blk_lt (g:=gb245) (o:=.cells #[.string a0_0, .slice A0_1 l0_1.length c0_1, .bool a0_2, .string a0_3] 24 (0,0)) (by (with_reducible repeat (first|refine blk_drewN ?_ _|refine blk_drew ?_|refine blk_alloc ?_ _));exact BK245.out)):gb245 ≠ gb270))
         have n9_:=Aside0.mk ((by rw [hg];exact Nat.ne_of_gt (blk_lt (g:=gb245) (o:=.cells #[.string a0_0, .slice A0_1 l0_1.length c0_1, .bool a0_2, .string a0_3] 24 (0,0)) (by (with_reducible repeat (first|refine blk_drewN ?_ _|refine blk_drew ?_|refine blk_alloc ?_ _));exact BK245.out)):gb270 ≠ gb245))
         have n10_:=Aside0.mk ((by rw [hg];exact Nat.ne_of_lt (blk_lt (g:=gb246) (o:=.cells #[.string x247000_1, .slice none 0 0, .bool x247002_1, .string x247003_1] 24 (0,0)) (by (with_reducible repeat (first|refine blk_drewN ?_ _|refine blk_drew ?_|refine blk_alloc ?_ _));exact BK246.out)):gb246 ≠ gb270))
         have n11_:=Aside0.mk ((by rw [hg];exact Nat.ne_of_gt (blk_lt (g:=gb246) (o:=.cells #[.string x247000_1, .slice none 0 0, .bool x247002_1, .string x247003_1] 24 (0,0)) (by (with_reducible repeat (first|refine blk_drewN ?_ _|refine blk_drew ?_|refine blk_alloc ?_ _));exact BK246.out)):gb270 ≠ gb246))
         clear HO_8
         clear HO_9
         clear BK245
         clear BK246
         clear HB
         have HO_8:=n0_
         have HO_9:=n1_
         have BK245:=n2_
         have BK246:=n3_
         have HB:=n4_
         have BK270:=n5_
         have GW270:=n6_
         have GE270:=n7_
         have NB245_270:=n8_
         have NB270_245:=n9_
         have NB246_270:=n10_
         have NB270_246:=n11_
         clear n0_ n1_ n2_ n3_ n4_ n5_ n6_ n7_ n8_ n9_ n10_ n11_
         clear hb hbox hg
         refine hK.out _ _ ⟨(blk_cell BK245.out 0).trans rfl,(blk_cell BK245.out 1).trans rfl,(blk_cell BK245.out 2).trans rfl,(blk_cell BK245.out 3).trans rfl⟩ (fun hHeld=>?_)
         clear hK K
         refine norm_ (a':=?_) ?_ ?_
         rotate_left
         ·show Act.put _ (some 15) _ = _
          simp only [Act.put,List.setIfInBounds_toArray,List.set_cons_zero,List.set_cons_succ,i64_w,i32_w]
          rfl
         refine one_ (i:=3) (N:=some 57) #[true,true,true,true,true,true,false,true,false] rfl rfl (one_of HT_.out (by kernel_rfl)) (by decide) (fun K hK=>?_)
         refine goes_ Tryd.func55 (by kernel_rfl) rfl #[.slice Ao53 x8_1.length co53] (by rfl) rfl rfl (by (try simp only [List.map_toArray,List.map_cons,List.map_nil]);first|done|rfl|(simp only [List.length_drop,List.length_take];rfl)) ?_
         with_reducible refine (spec_PathClean.calls k1 _ _ x8_1 t267 _ ?side1 ?side2 A27.out).mono ?_
         (case side1=>repeat (first|exact (Kd.R_reads' HO_8.out).2.2|(with_reducible refine Kd.C_alloc ?_ _)|(with_reducible refine Kd.C_drewN ?_ _)|(with_reducible refine Kd.C_drew ?_)))
         (case side2=>exact (Kd.R_reads' HO_8.out).2.1)
         rintro e w56 ⟨v268,rfl,ho0,hb⟩
         refine ⟨_,rfl,?_⟩
         have n0_:=Aside0.mk (Kd.R_elder' (by (with_reducible repeat (first|apply Kd.R_alloc|apply Kd.R_drewN|apply Kd.R_drew));exact HO_8.out) (Kd.R_base ho0) hb)
         have n1_:=Aside0.mk (Kd.R_elder' (by (with_reducible repeat (first|apply Kd.R_alloc|apply Kd.R_drewN|apply Kd.R_drew));exact HO_9.out) (Kd.R_base ho0) hb)
         have n2_:=Aside0.mk (Kd.R_lower (Kd.R_new' (Kd.R_new' ho0 (Kd.R_lt (by (with_reducible repeat (first|apply Kd.R_alloc|apply Kd.R_drewN|apply Kd.R_drew));exact HO_8.out))) (Kd.R_lt (by (with_reducible repeat (first|apply Kd.R_alloc|apply Kd.R_drewN|apply Kd.R_drew));exact HO_9.out))) (below_size (by repeat (first|(with_reducible first|exact HB.out|apply below_alloc|apply pw_below_drewN|apply below_drew1|refine below_set ?_ GE245.out|refine below_set ?_ GE246.out|refine below_set ?_ GE270.out)|exact HB.out))))
         have n3_:=Aside0.mk (blk_below (g:=gb245) (o:=.cells #[.string a0_0, .slice A0_1 l0_1.length c0_1, .bool a0_2, .string a0_3] 24 (0,0)) (by (with_reducible repeat (first|refine blk_drewN ?_ _|refine blk_drew ?_|refine blk_alloc ?_ _));exact BK245.out) hb)
         have n4_:=Aside0.mk (blk_below (g:=gb246) (o:=.cells #[.string x247000_1, .slice none 0 0, .bool x247002_1, .string x247003_1] 24 (0,0)) (by (with_reducible repeat (first|refine blk_drewN ?_ _|refine blk_drew ?_|refine blk_alloc ?_ _));exact BK246.out) hb)
         have n5_:=Aside0.mk (blk_below (g:=gb270) (o:=.cells #[.string (⟨#[]⟩:ByteArray), .slice none 0 0, .bool false, .string (⟨#[]⟩:ByteArray)] 24 (0,0)) (by (with_reducible repeat (first|refine blk_drewN ?_ _|refine blk_drew ?_|refine blk_alloc ?_ _));exact BK270.out) hb)
         have n6_:=Aside0.mk (below_step (by repeat (first|(with_reducible first|exact HB.out|apply below_alloc|apply pw_below_drewN|apply below_drew1|refine below_set ?_ GE245.out|refine below_set ?_ GE246.out|refine below_set ?_ GE270.out)|exact HB.out)) hb)
         clear HO_8
         clear HO_9
         clear BK245
         clear BK246
         clear BK270
         clear HB
         have HO_8:=n0_
         have HO_9:=n1_
         have HO269:=n2_
         have BK245:=n3_
         have BK246:=n4_
         have BK270:=n5_
         have HB:=n6_
         clear n0_ n1_ n2_ n3_ n4_ n5_ n6_
         (try clear hb)
         (try clear hb2)
         (try clear hk)
         (try clear hi)
         (try clear ho0)
         obtain ⟨Ao57,co57,eo57⟩:=Kd.R_slice HO269.out
         (first|subst eo57|(injection eo57 with f1_ f2_ f3_;have f4_:=f1_.symm;have f5_:=f3_.symm;clear f1_ f2_ f3_;subst f4_;subst f5_))
         refine hK.out _ _ ⟨(blk_cell BK245.out 0).trans rfl,(blk_cell BK245.out 1).trans rfl,(blk_cell BK245.out 2).trans rfl,(blk_cell BK245.out 3).trans rfl⟩ (fun hHeld=>?_)
         clear hK K
         refine norm_ (a':=?_) ?_ ?_
         rotate_left
         ·show Act.put _ (some 57) _ = _
          simp only [Act.put,List.setIfInBounds_toArray,List.set_cons_zero,List.set_cons_succ,i64_w,i32_w]
          rfl
         refine pure_ (i:=6) (N:=some 60) (v:=?_) (a':=?_) #[true,true,true,true,true,true,true,true,false] rfl rfl (any_of HT_.out (by kernel_rfl)) (fun _ _ _ h=>h) (Or.inl ⟨by rfl,?_⟩) ?_ ?_
         rotate_left
         ·intro w'
          go_simp
          with_reducible rfl
         rotate_left
         ·simp only [Act.put,List.setIfInBounds_toArray,List.set_cons_zero,List.set_cons_succ,i64_w,i32_w]
          rfl
         exact norm_ (by simp only [putAll,Act.put,List.setIfInBounds_toArray,List.set_cons_zero,List.set_cons_succ]) (hCont (.slice Ao57 t267.length co57,gb270) _ ⟨hHeld,(by (with_reducible repeat (first|apply Kd.R_alloc|apply Kd.R_drewN|apply Kd.R_drew));exact Kd.R_mono HO269.out (fun _ hk=>⟨hk.1.2,hk.2⟩)),(by (with_reducible repeat (first|apply Kd.R_alloc|apply Kd.R_drewN|apply Kd.R_drew));exact Kd.R_mono HO_8.out (fun _ hk=>⟨hk.2,hk.1⟩)),(by (with_reducible repeat (first|apply Kd.R_alloc|apply Kd.R_drewN|apply Kd.R_drew));exact Kd.R_mono HO_9.out (fun _ hk=>⟨hk.2,hk.1⟩)),(by (with_reducible repeat (first|refine blk_drewN ?_ _|refine blk_drew ?_|refine blk_alloc ?_ _));exact BK245.out),(by (with_reducible repeat (first|refine blk_drewN ?_ _|refine blk_drew ?_|refine blk_alloc ?_ _));exact BK246.out),(by (with_reducible repeat (first|refine blk_drewN ?_ _|refine blk_drew ?_|refine blk_alloc ?_ _));exact BK270.out),GW270.out,GE270.out,NB245_270.out,NB270_245.out,NB246_270.out,NB270_246.out,(by repeat (first|(with_reducible first|exact HB.out|apply below_alloc|apply pw_below_drewN|apply below_drew1|refine below_set ?_ GE245.out|refine below_set ?_ GE246.out|refine below_set ?_ GE270.out)|exact HB.out))⟩)
       rintro ⟨v268,gb270⟩ w58 ⟨hS_,h0_,h1_,h2_,h3_,h4_,h5_,h6_,h7_,h8_,h9_,h10_,h11_,h12_⟩
       have n0_:Aside0 (Kd.R Kd.string 9 w58 w.heap.size (fun k_=>some k_ ≠ (.slice Ao53 x8_1.length co53:Value).ownBlock ∧ some k_ ≠ (.slice Ao51 t256.length co51:Value).ownBlock) v268 t267):=⟨h0_⟩
       have n1_:Aside0 (Kd.R Kd.string 9 w58 w.heap.size (fun k_=>some k_ ≠ (v268:Value).ownBlock ∧ some k_ ≠ (.slice Ao51 t256.length co51:Value).ownBlock) (.slice Ao53 x8_1.length co53) x8_1):=⟨h1_⟩
       have n2_:Aside0 (Kd.R Kd.string 9 w58 w.heap.size (fun k_=>some k_ ≠ (v268:Value).ownBlock ∧ some k_ ≠ (.slice Ao53 x8_1.length co53:Value).ownBlock) (.slice Ao51 t256.length co51) t256):=⟨h2_⟩
       have n3_:Aside0 (w58.heap[gb245]? = some (.cells #[.string a0_0, .slice A0_1 l0_1.length c0_1, .bool a0_2, .string a0_3] 24 (0,0))):=⟨h3_⟩
       have n4_:Aside0 (w58.heap[gb246]? = some (.cells #[.string x247000_1, .slice none 0 0, .bool x247002_1, .string x247003_1] 24 (0,0))):=⟨h4_⟩
       have n5_:Aside0 (w58.heap[gb270]? = some (.cells #[.string (⟨#[]⟩:ByteArray), .slice none 0 0, .bool false, .string (⟨#[]⟩:ByteArray)] 24 (0,0))):=⟨h5_⟩
       have n6_:Aside0 (w.heap.size ≤ gb270):=⟨h6_⟩
       have n7_:Aside0 (w.heap.size ≤ gb270):=⟨h7_⟩
       have n8_:Aside0 (gb245 ≠ gb270):=⟨h8_⟩
       have n9_:Aside0 (gb270 ≠ gb245):=⟨h9_⟩
       have n10_:Aside0 (gb246 ≠ gb270):=⟨h10_⟩
       have n11_:Aside0 (gb270 ≠ gb246):=⟨h11_⟩
       have n12_:Aside0 (Below w.heap.size w w58):=⟨h12_⟩
       clear HO_8
       clear HO_9
       clear BK245
       clear BK246
       clear HB
       clear h0_ h1_ h2_ h3_ h4_ h5_ h6_ h7_ h8_ h9_ h10_ h11_ h12_
       have HO269:=n0_
       have HO_8:=n1_
       have HO_9:=n2_
       have BK245:=n3_
       have BK246:=n4_
       have BK270:=n5_
       have GW270:=n6_
       have GE270:=n7_
       have NB245_270:=n8_
       have NB270_245:=n9_
       have NB246_270:=n10_
       have NB270_246:=n11_
       have HB:=n12_
       clear n0_ n1_ n2_ n3_ n4_ n5_ n6_ n7_ n8_ n9_ n10_ n11_ n12_
       have hHeld:w58.cell? ⟨gb245,0,none⟩ = some (.string a0_0) ∧ w58.cell? ⟨gb245,1,none⟩ = some (.slice A0_1 l0_1.length c0_1) ∧ w58.cell? ⟨gb245,2,none⟩ = some (.bool a0_2) ∧ w58.cell? ⟨gb245,3,none⟩ = some (.string a0_3):=hS_
       obtain ⟨Ao59,co59,eo59⟩:=Kd.R_slice HO269.out
       (first|subst eo59|(injection eo59 with f1_ f2_ f3_;have f4_:=f1_.symm;have f5_:=f3_.symm;clear f1_ f2_ f3_;subst f4_;subst f5_))
       refine norm_ (a':=?_) ?_ ?_
       rotate_left
       ·simp only [putAll,Act.put,List.setIfInBounds_toArray,List.set_cons_zero,List.set_cons_succ]
        rfl
       refine one_ (i:=8) (N:=none) #[true,true,true,true,true,true,true,true,true] rfl rfl (one_of HT_.out (by kernel_rfl)) (by decide) (fun K hK=>?_)
       have hs60:w58.cell? ⟨gb270,0,none⟩ = some (.string (⟨#[]⟩:ByteArray)):=(blk_cell BK270.out 0).trans rfl
       have hfs60:=blk_frozen BK270.out 0
       have hns60_0:=NB245_270.out
       have hns60_1:=NB246_270.out
       have hms60_0:=NB270_245.out
       have hms60_1:=NB270_246.out
       have hs61:w58.cell? ⟨gb270,1,none⟩ = some (.slice none 0 0):=(blk_cell BK270.out 1).trans rfl
       have hfs61:=blk_frozen BK270.out 1
       have hns61_0:=NB245_270.out
       have hns61_1:=NB246_270.out
       have hms61_0:=NB270_245.out
       have hms61_1:=NB270_246.out
       have hs62:w58.cell? ⟨gb270,2,none⟩ = some (.bool false):=(blk_cell BK270.out 2).trans rfl
       have hfs62:=blk_frozen BK270.out 2
       have hns62_0:=NB245_270.out
       have hns62_1:=NB246_270.out
       have hms62_0:=NB270_245.out
       have hms62_1:=NB270_246.out
       have hs63:w58.cell? ⟨gb270,3,none⟩ = some (.string (⟨#[]⟩:ByteArray)):=(blk_cell BK270.out 3).trans rfl
       have hfs63:=blk_frozen BK270.out 3
       have hns63_0:=NB245_270.out
       have hns63_1:=NB246_270.out
       have hms63_0:=NB270_245.out
       have hms63_1:=NB270_246.out
       refine skip_ (w1:=?_) (by rfl) rfl ?_ ?_
       rotate_left
       ·go_simp
        rfl
       refine hK.out _ _ ⟨((cell_far (p:=⟨gb270,_,none⟩) NB245_270.out _).trans (((cell_far (p:=⟨gb270,_,none⟩) NB245_270.out _).trans (((cell_far (p:=⟨gb270,_,none⟩) NB245_270.out _).trans (((cell_far (p:=⟨gb270,_,none⟩) NB245_270.out _).trans (hHeld.1)))))))),((cell_far (p:=⟨gb270,_,none⟩) NB245_270.out _).trans (((cell_far (p:=⟨gb270,_,none⟩) NB245_270.out _).trans (((cell_far (p:=⟨gb270,_,none⟩) NB245_270.out _).trans (((cell_far (p:=⟨gb270,_,none⟩) NB245_270.out _).trans (hHeld.2.1)))))))),((cell_far (p:=⟨gb270,_,none⟩) NB245_270.out _).trans (((cell_far (p:=⟨gb270,_,none⟩) NB245_270.out _).trans (((cell_far (p:=⟨gb270,_,none⟩) NB245_270.out _).trans (((cell_far (p:=⟨gb270,_,none⟩) NB245_270.out _).trans (hHeld.2.2.1)))))))),((cell_far (p:=⟨gb270,_,none⟩) NB245_270.out _).trans (((cell_far (p:=⟨gb270,_,none⟩) NB245_270.out _).trans (((cell_far (p:=⟨gb270,_,none⟩) NB245_270.out _).trans (((cell_far (p:=⟨gb270,_,none⟩) NB245_270.out _).trans (hHeld.2.2.2))))))))⟩ (fun hHeld=>?_)
       clear hK K
       refine done_ (done_of HT_.out (by kernel_rfl)) ?_
       have hnb64:=NB270_245.out
       have hnc64:=NB245_270.out
       have hnb65:=NB270_246.out
       have hnc65:=NB246_270.out
       have hcz66_0:w58.cell? ⟨gb270,0,none⟩ = some (.string (⟨#[]⟩:ByteArray)):=(blk_cell BK270.out 0).trans rfl
       have hcz66_1:w58.cell? ⟨gb270,1,none⟩ = some (.slice none 0 0):=(blk_cell BK270.out 1).trans rfl
       have hcz66_2:w58.cell? ⟨gb270,2,none⟩ = some (.bool false):=(blk_cell BK270.out 2).trans rfl
       have hcz66_3:w58.cell? ⟨gb270,3,none⟩ = some (.string (⟨#[]⟩:ByteArray)):=(blk_cell BK270.out 3).trans rfl
       have hfz66_0:=blk_frozen BK270.out 0
       have hfz66_1:=blk_frozen BK270.out 1
       have hfz66_2:=blk_frozen BK270.out 2
       have hfz66_3:=blk_frozen BK270.out 3
       try go_wp2_with (first|(go_at_call 29;(with_reducible refine (spec_AddrOk.calls k1 a0_0 _ _ t267 t249 t265 false _ ?side1 ?side2 A29.out).mono ?_);(case side1=>refine (Kd.R_reads' (e:=9) (base:=w.heap.size) (ok:=fun k_=>(some k_ ≠ (.slice Ao53 x8_1.length co53:Value).ownBlock ∧ some k_ ≠ (.slice Ao51 t256.length co51:Value).ownBlock)) (n:=t267.length) (c:=co59) ?_).2.2;exact (by (with_reducible repeat (first|apply Kd.R_alloc|apply Kd.R_drewN|apply Kd.R_drew));exact (Kd.R_mono (Kd.R_far (p:=⟨gb270,3,none⟩) (Kd.R_far (p:=⟨gb270,2,none⟩) (Kd.R_far (p:=⟨gb270,1,none⟩) (Kd.R_far (p:=⟨gb270,0,none⟩) (Kd.R_types HO269.out BK270.out (by decide)) (fun _ hk=>hk.2) (.string a0_0)) (fun _ hk=>hk.2) (.slice Ao59 t267.length co59)) (fun _ hk=>hk.2) (.bool t249)) (fun _ hk=>hk.2) (.string t265)) (fun _ h_=>h_.1))));(case side2=>exact (Kd.R_reads' HO269.out).2.1);rintro e w67 ⟨rfl,hb⟩;have n0_:=Aside0.mk (Kd.R_below (by (with_reducible repeat (first|apply Kd.R_alloc|apply Kd.R_drewN|apply Kd.R_drew));exact (Kd.R_mono (Kd.R_far (p:=⟨gb270,3,none⟩) (Kd.R_far (p:=⟨gb270,2,none⟩) (Kd.R_far (p:=⟨gb270,1,none⟩) (Kd.R_far (p:=⟨gb270,0,none⟩) (Kd.R_types HO_8.out BK270.out (by decide)) (fun _ hk=>hk.2) (.string a0_0)) (fun _ hk=>hk.2) (.slice Ao59 t267.length co59)) (fun _ hk=>hk.2) (.bool t249)) (fun _ hk=>hk.2) (.string t265)) (fun _ h_=>h_.1))) hb);have n1_:=Aside0.mk (Kd.R_below (by (with_reducible repeat (first|apply Kd.R_alloc|apply Kd.R_drewN|apply Kd.R_drew));exact (Kd.R_mono (Kd.R_far (p:=⟨gb270,3,none⟩) (Kd.R_far (p:=⟨gb270,2,none⟩) (Kd.R_far (p:=⟨gb270,1,none⟩) (Kd.R_far (p:=⟨gb270,0,none⟩) (Kd.R_types HO_9.out BK270.out (by decide)) (fun _ hk=>hk.2) (.string a0_0)) (fun _ hk=>hk.2) (.slice Ao59 t267.length co59)) (fun _ hk=>hk.2) (.bool t249)) (fun _ hk=>hk.2) (.string t265)) (fun _ h_=>h_.1))) hb);have n2_:=Aside0.mk (Kd.R_below (by (with_reducible repeat (first|apply Kd.R_alloc|apply Kd.R_drewN|apply Kd.R_drew));exact (Kd.R_mono (Kd.R_far (p:=⟨gb270,3,none⟩) (Kd.R_far (p:=⟨gb270,2,none⟩) (Kd.R_far (p:=⟨gb270,1,none⟩) (Kd.R_far (p:=⟨gb270,0,none⟩) (Kd.R_types HO269.out BK270.out (by decide)) (fun _ hk=>hk.2) (.string a0_0)) (fun _ hk=>hk.2) (.slice Ao59 t267.length co59)) (fun _ hk=>hk.2) (.bool t249)) (fun _ hk=>hk.2) (.string t265)) (fun _ h_=>h_.1))) hb);have n3_:=Aside0.mk (blk_below (g:=gb245) (o:=.cells #[.string a0_0, .slice A0_1 l0_1.length c0_1, .bool a0_2, .string a0_3] 24 (0,0)) (by (with_reducible repeat (first|refine blk_drewN ?_ _|refine blk_drew ?_|refine blk_alloc ?_ _));refine blk_far ?_ NB245_270.out _;(with_reducible repeat (first|refine blk_drewN ?_ _|refine blk_drew ?_|refine blk_alloc ?_ _));refine blk_far ?_ NB245_270.out _;(with_reducible repeat (first|refine blk_drewN ?_ _|refine blk_drew ?_|refine blk_alloc ?_ _));refine blk_far ?_ NB245_270.out _;(with_reducible repeat (first|refine blk_drewN ?_ _|refine blk_drew ?_|refine blk_alloc ?_ _));refine blk_far ?_ NB245_270.out _;(with_reducible repeat (first|refine blk_drewN ?_ _|refine blk_drew ?_|refine blk_alloc ?_ _));exact BK245.out) hb);have n4_:=Aside0.mk (blk_below (g:=gb246) (o:=.cells #[.string x247000_1, .slice none 0 0, .bool x247002_1, .string x247003_1] 24 (0,0)) (by (with_reducible repeat (first|refine blk_drewN ?_ _|refine blk_drew ?_|refine blk_alloc ?_ _));refine blk_far ?_ NB246_270.out _;(with_reducible repeat (first|refine blk_drewN ?_ _|refine blk_drew ?_|refine blk_alloc ?_ _));refine blk_far ?_ NB246_270.out _;(with_reducible repeat (first|refine blk_drewN ?_ _|refine blk_drew ?_|refine blk_alloc ?_ _));refine blk_far ?_ NB246_270.out _;(with_reducible repeat (first|refine blk_drewN ?_ _|refine blk_drew ?_|refine blk_alloc ?_ _));refine blk_far ?_ NB246_270.out _;(with_reducible repeat (first|refine blk_drewN ?_ _|refine blk_drew ?_|refine blk_alloc ?_ _));exact BK246.out) hb);have n5_:=Aside0.mk (blk_below (g:=gb270) (o:=.cells #[.string a0_0, .slice Ao59 t267.length co59, .bool t249, .string t265] 24 (0,0)) (by (with_reducible repeat (first|refine blk_drewN ?_ _|refine blk_drew ?_|refine blk_alloc ?_ _));refine blk_put (cs:=#[.string a0_0, .slice Ao59 t267.length co59, .bool t249, .string (⟨#[]⟩:ByteArray)]) ?_ 3 _ rfl;(with_reducible repeat (first|refine blk_drewN ?_ _|refine blk_drew ?_|refine blk_alloc ?_ _));refine blk_put (cs:=#[.string a0_0, .slice Ao59 t267.length co59, .bool false, .string (⟨#[]⟩:ByteArray)]) ?_ 2 _ rfl;(with_reducible repeat (first|refine blk_drewN ?_ _|refine blk_drew ?_|refine blk_alloc ?_ _));refine blk_put (cs:=#[.string a0_0, .slice none 0 0, .bool false, .string (⟨#[]⟩:ByteArray)]) ?_ 1 _ rfl;(with_reducible repeat (first|refine blk_drewN ?_ _|refine blk_drew ?_|refine blk_alloc ?_ _));refine blk_put (cs:=#[.string (⟨#[]⟩:ByteArray), .slice none 0 0, .bool false, .string (⟨#[]⟩:ByteArray)]) ?_ 0 _ rfl;(with_reducible repeat (first|refine blk_drewN ?_ _|refine blk_drew ?_|refine blk_alloc ?_ _));exact BK270.out) hb);have n6_:=Aside0.mk (below_step (by repeat (first|(with_reducible first|exact HB.out|apply below_alloc|apply pw_below_drewN|apply below_drew1|refine below_set ?_ GE245.out|refine below_set ?_ GE246.out|refine below_set ?_ GE270.out)|exact HB.out)) hb);clear HO_8;clear HO_9;clear HO269;clear BK245;clear BK246;clear BK270;clear HB;have HO_8:=n0_;have HO_9:=n1_;have HO269:=n2_;have BK245:=n3_;have BK246:=n4_;have BK270:=n5_;have HB:=n6_;clear n0_ n1_ n2_ n3_ n4_ n5_ n6_;(try clear hb);(try clear hb2);(try clear hk);(try clear hi);have hnb68:=NB246_245.out;have hnc68:=NB245_246.out;have hcz69_0:w67.cell? ⟨gb246,0,none⟩ = some (.string x247000_1):=(blk_cell BK246.out 0).trans rfl;have hcz69_1:w67.cell? ⟨gb246,1,none⟩ = some (.slice none 0 0):=(blk_cell BK246.out 1).trans rfl;have hcz69_2:w67.cell? ⟨gb246,2,none⟩ = some (.bool x247002_1):=(blk_cell BK246.out 2).trans rfl;have hcz69_3:w67.cell? ⟨gb246,3,none⟩ = some (.string x247003_1):=(blk_cell BK246.out 3).trans rfl;have hfz69_0:=blk_frozen BK246.out 0;have hfz69_1:=blk_frozen BK246.out 1;have hfz69_2:=blk_frozen BK246.out 2;have hfz69_3:=blk_frozen BK246.out 3))
       refine bodyPost_ret (results_ct rfl _ _ gb246 24 #[.string (⟨#[]⟩:ByteArray), .slice none 0 0, .bool false, .string (⟨#[]⟩:ByteArray)] (0,0) _ rfl (by (with_reducible repeat (first|refine blk_drewN ?_ _|refine blk_drew ?_|refine blk_alloc ?_ _));refine blk_put (cs:=#[.string (⟨#[]⟩:ByteArray), .slice none 0 0, .bool false, .string x247003_1]) ?_ 3 _ rfl;(with_reducible repeat (first|refine blk_drewN ?_ _|refine blk_drew ?_|refine blk_alloc ?_ _));refine blk_put (cs:=#[.string (⟨#[]⟩:ByteArray), .slice none 0 0, .bool x247002_1, .string x247003_1]) ?_ 2 _ rfl;(with_reducible repeat (first|refine blk_drewN ?_ _|refine blk_drew ?_|refine blk_alloc ?_ _));refine blk_put (cs:=#[.string (⟨#[]⟩:ByteArray), .slice none 0 0, .bool x247002_1, .string x247003_1]) ?_ 1 _ rfl;(with_reducible repeat (first|refine blk_drewN ?_ _|refine blk_drew ?_|refine blk_alloc ?_ _));refine blk_put (cs:=#[.string x247000_1, .slice none 0 0, .bool x247002_1, .string x247003_1]) ?_ 0 _ rfl;(with_reducible repeat (first|refine blk_drewN ?_ _|refine blk_drew ?_|refine blk_alloc ?_ _));exact BK246.out) Tryd.underlying24 rfl (by kernel_rfl)) rfl ?_
       exact ⟨_,by first|rfl|(simp <;> rfl)|(simp [*] <;> rfl),by first|exact Kd.R_nil _ _ _ _ _|exact Kd.N_nil _ _ _ _ _|exact Kd.V_nil _ _ _ _ _|exact Kd.Q_nil _ _ _ _ _|exact Kd.S_nil _ _ _ _ _,by repeat (first|(with_reducible first|exact HB.out|apply below_alloc|apply pw_below_drewN|apply below_drew1|refine below_set ?_ GE245.out|refine below_set ?_ GE246.out|refine below_set ?_ GE270.out)|exact HB.out)⟩
     ·replace c28:=Bool.eq_false_iff.mpr c28
      subst c28
      have H1:(some ((⟨#[]⟩:ByteArray),([]:List ByteArray),false,(⟨#[]⟩:ByteArray),false)) = some (r1,r2,r3,r4,r5):=by rw [if_neg (show ¬ (false = true) by decide)] at H;exact H
      clear H
      have H:=H1
      clear H1
      simp only [Option.some.injEq,Prod.mk.injEq] at H
      obtain ⟨rfl,rfl,rfl,rfl,rfl⟩:=H
      obtain ⟨Ao70,co70,eo70⟩:=Kd.R_slice HO_9.out
      subst eo70
      try go_wp2_with (first|((with_reducible refine gate_callee (f:=54) rfl ?_);refine goesL_ (some 51) rfl rfl Tryd.func54 (by kernel_rfl) rfl #[.string t248] rfl (by (try simp only [List.map_toArray,List.map_cons,List.map_nil]);first|done|rfl|(simp only [List.length_drop,List.length_take];rfl)) ?_;(with_reducible refine (spec_EscNorm.calls k1 t248 t265 false _ A26.out).mono ?_);rintro e w71 ⟨rfl,hb⟩;refine ⟨_,rfl,?_⟩;have n0_:=Aside0.mk (Kd.R_below (by (with_reducible repeat (first|apply Kd.R_alloc|apply Kd.R_drewN|apply Kd.R_drew));exact HO_8.out) hb);have n1_:=Aside0.mk (Kd.R_below (by (with_reducible repeat (first|apply Kd.R_alloc|apply Kd.R_drewN|apply Kd.R_drew));exact HO_9.out) hb);have n2_:=Aside0.mk (blk_below (g:=gb245) (o:=.cells #[.string a0_0, .slice A0_1 l0_1.length c0_1, .bool a0_2, .string a0_3] 24 (0,0)) (by (with_reducible repeat (first|refine blk_drewN ?_ _|refine blk_drew ?_|refine blk_alloc ?_ _));exact BK245.out) hb);have n3_:=Aside0.mk (blk_below (g:=gb246) (o:=.cells #[.string x247000_1, .slice none 0 0, .bool x247002_1, .string x247003_1] 24 (0,0)) (by (with_reducible repeat (first|refine blk_drewN ?_ _|refine blk_drew ?_|refine blk_alloc ?_ _));exact BK246.out) hb);have n4_:=Aside0.mk (below_step (by repeat (first|(with_reducible first|exact HB.out|apply below_alloc|apply pw_below_drewN|apply below_drew1|refine below_set ?_ GE245.out|refine below_set ?_ GE246.out)|exact HB.out)) hb);clear HO_8;clear HO_9;clear BK245;clear BK246;clear HB;have HO_8:=n0_;have HO_9:=n1_;have BK245:=n2_;have BK246:=n3_;have HB:=n4_;clear n0_ n1_ n2_ n3_ n4_;(try clear hb);(try clear hb2);(try clear hk);(try clear hi);obtain ⟨Ao72,co72,eo72⟩:=Kd.R_slice HO_8.out;subst eo72))
      have n0_:=Aside0.mk (Kd.R_drew HO_8.out)
      have n1_:=Aside0.mk (Kd.R_drew HO_9.out)
      have n2_:=Aside0.mk (blk_drew BK245.out)
      have n3_:=Aside0.mk (blk_drew BK246.out)
      have n4_:=Aside0.mk (below_drew1 HB.out)
      clear HO_8
      clear HO_9
      clear BK245
      clear BK246
      clear HB
      have HO_8:=n0_
      have HO_9:=n1_
      have BK245:=n2_
      have BK246:=n3_
      have HB:=n4_
      clear n0_ n1_ n2_ n3_ n4_
      refine start_ (n:=9) (S:=fun w'=>w'.cell? ⟨gb245,0,none⟩ = some (.string a0_0) ∧ w'.cell? ⟨gb245,1,none⟩ = some (.slice A0_1 l0_1.length c0_1) ∧ w'.cell? ⟨gb245,2,none⟩ = some (.bool a0_2) ∧ w'.cell? ⟨gb245,3,none⟩ = some (.string a0_3)) (ds:=[]) #[false,false,false,false,false,false,false,false,false] (by kernel_rfl) rfl rfl ⟨(blk_cell BK245.out 0).trans rfl,(blk_cell BK245.out 1).trans rfl,(blk_cell BK245.out 2).trans rfl,(blk_cell BK245.out 3).trans rfl⟩ (fun hHeld=>?_);refine with_tabW spec_l1Way.tab12 spec_l1Way.bits12 (fun HT_ HW_=>?_)
      generalize w71.drew = w73 at HO_8 HO_9 BK245 BK246 HB hHeld ⊢
      refine pure_ (i:=0) (N:=some 54) (v:=?_) (a':=?_) #[true,false,false,false,false,false,false,false,false] rfl rfl (any_of HT_.out (by kernel_rfl)) (fun _ _ _ h=>h) (Or.inl ⟨by rfl,?_⟩) ?_ ?_
      rotate_left
      ·intro w'
       go_simp
       with_reducible rfl
      rotate_left
      ·simp only [Act.put,List.setIfInBounds_toArray,List.set_cons_zero,List.set_cons_succ,i64_w,i32_w]
       rfl
      refine pure_ (i:=2) (N:=some 56) (v:=?_) (a':=?_) #[true,false,true,false,false,false,false,false,false] rfl rfl (any_of HT_.out (by kernel_rfl)) (fun _ _ _ h=>h) (Or.inl ⟨by rfl,?_⟩) ?_ ?_
      rotate_left
      ·intro w'
       go_simp
       with_reducible rfl
      rotate_left
      ·simp only [Act.put,List.setIfInBounds_toArray,List.set_cons_zero,List.set_cons_succ,i64_w,i32_w]
       rfl
      refine pure_ (i:=4) (N:=some 58) (v:=?_) (a':=?_) #[true,false,true,false,true,false,false,false,false] rfl rfl (any_of HT_.out (by kernel_rfl)) (fun _ _ _ h=>h) (Or.inl ⟨by rfl,?_⟩) ?_ ?_
      rotate_left
      ·intro w'
       go_simp
       with_reducible rfl
      rotate_left
      ·simp only [Act.put,List.setIfInBounds_toArray,List.set_cons_zero,List.set_cons_succ,i64_w,i32_w]
       rfl
      refine pure_ (i:=5) (N:=some 59) (v:=?_) (a':=?_) #[true,false,true,false,true,true,false,false,false] rfl rfl (any_of HT_.out (by kernel_rfl)) (fun _ _ _ h=>h) (Or.inl ⟨by rfl,?_⟩) ?_ ?_
      rotate_left
      ·intro w'
       go_simp
       with_reducible rfl
      rotate_left
      ·simp only [Act.put,List.setIfInBounds_toArray,List.set_cons_zero,List.set_cons_succ,i64_w,i32_w]
       rfl
      refine take_ (i:=1) (N:=some 55) (v:=?_) (a':=?_) #[true,true,true,false,true,true,false,false,false] rfl rfl (take_ofW HT_.out HW_.out (by kernel_rfl)) (fun _ _ _ h=>h) (Or.inl ⟨by rfl,?_⟩) hHeld ?_ ?_
      rotate_left
      ·rintro w' ⟨s0,s1,s2,s3⟩
       go_simp
       with_reducible rfl
      rotate_left
      ·simp only [Act.put,List.setIfInBounds_toArray,List.set_cons_zero,List.set_cons_succ,i64_w,i32_w]
       rfl
      refine join_ (σ:=Value × Nat) 1 #[true,true,true,true,true,true,true,true,false] (fun s_=>[(57,s_.1),(15, .pointer (some ⟨s_.2,0,none⟩)),(60, .agg #[.string a0_0,s_.1, .bool t249, .string t265])]) (fun s_ w'=>(w'.cell? ⟨gb245,0,none⟩ = some (.string a0_0) ∧ w'.cell? ⟨gb245,1,none⟩ = some (.slice A0_1 l0_1.length c0_1) ∧ w'.cell? ⟨gb245,2,none⟩ = some (.bool a0_2) ∧ w'.cell? ⟨gb245,3,none⟩ = some (.string a0_3)) ∧ (Kd.R Kd.string 9 w' w.heap.size (fun k_=>some k_ ≠ (.slice Ao72 x8_1.length co72:Value).ownBlock ∧ some k_ ≠ (.slice Ao70 t256.length co70:Value).ownBlock) s_.1 t267) ∧ (Kd.R Kd.string 9 w' w.heap.size (fun k_=>some k_ ≠ (s_.1:Value).ownBlock ∧ some k_ ≠ (.slice Ao70 t256.length co70:Value).ownBlock) (.slice Ao72 x8_1.length co72) x8_1) ∧ (Kd.R Kd.string 9 w' w.heap.size (fun k_=>some k_ ≠ (s_.1:Value).ownBlock ∧ some k_ ≠ (.slice Ao72 x8_1.length co72:Value).ownBlock) (.slice Ao70 t256.length co70) t256) ∧ (w'.heap[gb245]? = some (.cells #[.string a0_0, .slice A0_1 l0_1.length c0_1, .bool a0_2, .string a0_3] 24 (0,0))) ∧ (w'.heap[gb246]? = some (.cells #[.string x247000_1, .slice none 0 0, .bool x247002_1, .string x247003_1] 24 (0,0))) ∧ (w'.heap[s_.2]? = some (.cells #[.string (⟨#[]⟩:ByteArray), .slice none 0 0, .bool false, .string (⟨#[]⟩:ByteArray)] 24 (0,0))) ∧ (w.heap.size ≤ s_.2) ∧ (w.heap.size ≤ s_.2) ∧ (gb245 ≠ s_.2) ∧ (s_.2 ≠ gb245) ∧ (gb246 ≠ s_.2) ∧ (s_.2 ≠ gb246) ∧ (Below w.heap.size w w')) ?_ ?_
      rotate_left
      ·intro hCont
       refine two_ (i:=3) (j:=7) (Ni:=some 57) (Nj:=some 15) #[true,true,true,true,true,true,false,false,false] #[true,true,true,false,true,true,false,true,false] rfl rfl rfl rfl (two_of HT_.out (by kernel_rfl)) (by decide) (by decide) (fun K hK=>?_) (fun K hK=>?_)
       ·skip
        refine goes_ Tryd.func55 (by kernel_rfl) rfl #[.slice Ao72 x8_1.length co72] (by rfl) rfl rfl (by (try simp only [List.map_toArray,List.map_cons,List.map_nil]);first|done|rfl|(simp only [List.length_drop,List.length_take];rfl)) ?_
        with_reducible refine (spec_PathClean.calls k1 _ _ x8_1 t267 _ ?side1 ?side2 A27.out).mono ?_
        (case side1=>repeat (first|exact (Kd.R_reads' HO_8.out).2.2|(with_reducible refine Kd.C_alloc ?_ _)|(with_reducible refine Kd.C_drewN ?_ _)|(with_reducible refine Kd.C_drew ?_)))
        (case side2=>exact (Kd.R_reads' HO_8.out).2.1)
        rintro e w74 ⟨v268,rfl,ho0,hb⟩
        refine ⟨_,rfl,?_⟩
        have n0_:=Aside0.mk (Kd.R_elder' (by (with_reducible repeat (first|apply Kd.R_alloc|apply Kd.R_drewN|apply Kd.R_drew));exact HO_8.out) (Kd.R_base ho0) hb)
        have n1_:=Aside0.mk (Kd.R_elder' (by (with_reducible repeat (first|apply Kd.R_alloc|apply Kd.R_drewN|apply Kd.R_drew));exact HO_9.out) (Kd.R_base ho0) hb)
        have n2_:=Aside0.mk (Kd.R_lower (Kd.R_new' (Kd.R_new' ho0 (Kd.R_lt (by (with_reducible repeat (first|apply Kd.R_alloc|apply Kd.R_drewN|apply Kd.R_drew));exact HO_8.out))) (Kd.R_lt (by (with_reducible repeat (first|apply Kd.R_alloc|apply Kd.R_drewN|apply Kd.R_drew));exact HO_9.out))) (below_size (by repeat (first|(with_reducible first|exact HB.out|apply below_alloc|apply pw_below_drewN|apply below_drew1|refine below_set ?_ GE245.out|refine below_set ?_ GE246.out)|exact HB.out))))
        have n3_:=Aside0.mk (blk_below (g:=gb245) (o:=.cells #[.string a0_0, .slice A0_1 l0_1.length c0_1, .bool a0_2, .string a0_3] 24 (0,0)) (by (with_reducible repeat (first|refine blk_drewN ?_ _|refine blk_drew ?_|refine blk_alloc ?_ _));exact BK245.out) hb)
        have n4_:=Aside0.mk (blk_below (g:=gb246) (o:=.cells #[.string x247000_1, .slice none 0 0, .bool x247002_1, .string x247003_1] 24 (0,0)) (by (with_reducible repeat (first|refine blk_drewN ?_ _|refine blk_drew ?_|refine blk_alloc ?_ _));exact BK246.out) hb)
        have n5_:=Aside0.mk (below_step (by repeat (first|(with_reducible first|exact HB.out|apply below_alloc|apply pw_below_drewN|apply below_drew1|refine below_set ?_ GE245.out|refine below_set ?_ GE246.out)|exact HB.out)) hb)
        clear HO_8
        clear HO_9
        clear BK245
        clear BK246
        clear HB
        have HO_8:=n0_
        have HO_9:=n1_
        have HO269:=n2_
        have BK245:=n3_
        have BK246:=n4_
        have HB:=n5_
        clear n0_ n1_ n2_ n3_ n4_ n5_
        (try clear hb)
        (try clear hb2)
        (try clear hk)
        (try clear hi)
        (try clear ho0)
        obtain ⟨Ao75,co75,eo75⟩:=Kd.R_slice HO269.out
        (first|subst eo75|(injection eo75 with f1_ f2_ f3_;have f4_:=f1_.symm;have f5_:=f3_.symm;clear f1_ f2_ f3_;subst f4_;subst f5_))
        refine hK.out _ _ ⟨(blk_cell BK245.out 0).trans rfl,(blk_cell BK245.out 1).trans rfl,(blk_cell BK245.out 2).trans rfl,(blk_cell BK245.out 3).trans rfl⟩ (fun hHeld=>?_)
        clear hK K
        refine norm_ (a':=?_) ?_ ?_
        rotate_left
        ·show Act.put _ (some 57) _ = _
         simp only [Act.put,List.setIfInBounds_toArray,List.set_cons_zero,List.set_cons_succ,i64_w,i32_w]
         rfl
        refine pure_ (i:=6) (N:=some 60) (v:=?_) (a':=?_) #[true,true,true,true,true,true,true,false,false] rfl rfl (any_of HT_.out (by kernel_rfl)) (fun _ _ _ h=>h) (Or.inl ⟨by rfl,?_⟩) ?_ ?_
        rotate_left
        ·intro w'
         go_simp
         with_reducible rfl
        rotate_left
        ·simp only [Act.put,List.setIfInBounds_toArray,List.set_cons_zero,List.set_cons_succ,i64_w,i32_w]
         rfl
        refine one_ (i:=7) (N:=some 15) #[true,true,true,true,true,true,true,true,false] rfl rfl (one_of HT_.out (by kernel_rfl)) (by decide) (fun K hK=>?_)
        refine box_step ?hg (N:=15) ?hd (cs:=#[.string (⟨#[]⟩:ByteArray), .slice none 0 0, .bool false, .string (⟨#[]⟩:ByteArray)]) (t:=24) ?hr ?_;(case hd=>rfl);(case hg=>rfl);(case hr=>first|(go_simp;done)|(go_simp;rfl))
        intro gb270 hg w76 hbox hb
        have n0_:=Aside0.mk (Kd.R_below (by (with_reducible repeat (first|apply Kd.R_alloc|apply Kd.R_drewN|apply Kd.R_drew));exact HO_8.out) hb)
        have n1_:=Aside0.mk (Kd.R_below (by (with_reducible repeat (first|apply Kd.R_alloc|apply Kd.R_drewN|apply Kd.R_drew));exact HO_9.out) hb)
        have n2_:=Aside0.mk (Kd.R_below (by (with_reducible repeat (first|apply Kd.R_alloc|apply Kd.R_drewN|apply Kd.R_drew));exact HO269.out) hb)
        have n3_:=Aside0.mk (blk_below (g:=gb245) (o:=.cells #[.string a0_0, .slice A0_1 l0_1.length c0_1, .bool a0_2, .string a0_3] 24 (0,0)) (by (with_reducible repeat (first|refine blk_drewN ?_ _|refine blk_drew ?_|refine blk_alloc ?_ _));exact BK245.out) hb)
        have n4_:=Aside0.mk (blk_below (g:=gb246) (o:=.cells #[.string x247000_1, .slice none 0 0, .bool x247002_1, .string x247003_1] 24 (0,0)) (by (with_reducible repeat (first|refine blk_drewN ?_ _|refine blk_drew ?_|refine blk_alloc ?_ _));exact BK246.out) hb)
        have n5_:=Aside0.mk (below_step (by repeat (first|(with_reducible first|exact HB.out|apply below_alloc|apply pw_below_drewN|apply below_drew1|refine below_set ?_ GE245.out|refine below_set ?_ GE246.out)|exact HB.out)) hb)
        have n6_:=Aside0.mk (hbox)
        have n7_:=Aside0.mk ((by rw [hg];exact (below_size (by repeat (first|(with_reducible first|exact HB.out|apply below_alloc|apply pw_below_drewN|apply below_drew1|refine below_set ?_ GE245.out|refine below_set ?_ GE246.out)|exact HB.out))):w.heap.size ≤ gb270))
        have n8_:=Aside0.mk ((by rw [hg];exact (below_size (by repeat (first|(with_reducible first|exact HB.out|apply below_alloc|apply pw_below_drewN|apply below_drew1|refine below_set ?_ GE245.out|refine below_set ?_ GE246.out)|exact HB.out))):w.heap.size ≤ gb270))
        have n9_:=Aside0.mk ((by rw [hg];exact Nat.ne_of_lt (blk_lt (g:=gb245) (o:=.cells #[.string a0_0, .slice A0_1 l0_1.length c0_1, .bool a0_2, .string a0_3] 24 (0,0)) (by (with_reducible repeat (first|refine blk_drewN ?_ _|refine blk_drew ?_|refine blk_alloc ?_ _));exact BK245.out)):gb245 ≠ gb270))
        have n10_:=Aside0.mk ((by rw [hg];exact Nat.ne_of_gt (blk_lt (g:=gb245) (o:=.cells #[.string a0_0, .slice A0_1 l0_1.length c0_1, .bool a0_2, .string a0_3] 24 (0,0)) (by (with_reducible repeat (first|refine blk_drewN ?_ _|refine blk_drew ?_|refine blk_alloc ?_ _));exact BK245.out)):gb270 ≠ gb245))
        have n11_:=Aside0.mk ((by rw [hg];exact Nat.ne_of_lt (blk_lt (g:=gb246) (o:=.cells #[.string x247000_1, .slice none 0 0, .bool x247002_1, .string x247003_1] 24 (0,0)) (by (with_reducible repeat (first|refine blk_drewN ?_ _|refine blk_drew ?_|refine blk_alloc ?_ _));exact BK246.out)):gb246 ≠ gb270))
        have n12_:=Aside0.mk ((by rw [hg];exact Nat.ne_of_gt (blk_lt (g:=gb246) (o:=.cells #[.string x247000_1, .slice none 0 0, .bool x247002_1, .string x247003_1] 24 (0,0)) (by (with_reducible repeat (first|refine blk_drewN ?_ _|refine blk_drew ?_|refine blk_alloc ?_ _));exact BK246.out)):gb270 ≠ gb246))
        clear HO_8
        clear HO_9
        clear HO269
        clear BK245
        clear BK246
        clear HB
        have HO_8:=n0_
        have HO_9:=n1_
        have HO269:=n2_
        have BK245:=n3_
        have BK246:=n4_
        have HB:=n5_
        have BK270:=n6_
        have GW270:=n7_
        have GE270:=n8_
        have NB245_270:=n9_
        have NB270_245:=n10_
        have NB246_270:=n11_
        have NB270_246:=n12_
        clear n0_ n1_ n2_ n3_ n4_ n5_ n6_ n7_ n8_ n9_ n10_ n11_ n12_
        clear hb hbox hg
        refine hK.out _ _ ⟨(blk_cell BK245.out 0).trans rfl,(blk_cell BK245.out 1).trans rfl,(blk_cell BK245.out 2).trans rfl,(blk_cell BK245.out 3).trans rfl⟩ (fun hHeld=>?_)
        clear hK K
        refine norm_ (a':=?_) ?_ ?_
        rotate_left
        ·show Act.put _ (some 15) _ = _
         simp only [Act.put,List.setIfInBounds_toArray,List.set_cons_zero,List.set_cons_succ,i64_w,i32_w]
         rfl
        exact norm_ (by simp only [putAll,Act.put,List.setIfInBounds_toArray,List.set_cons_zero,List.set_cons_succ]) (hCont (.slice Ao75 t267.length co75,gb270) _ ⟨hHeld,(by (with_reducible repeat (first|apply Kd.R_alloc|apply Kd.R_drewN|apply Kd.R_drew));exact Kd.R_mono HO269.out (fun _ hk=>⟨hk.1.2,hk.2⟩)),(by (with_reducible repeat (first|apply Kd.R_alloc|apply Kd.R_drewN|apply Kd.R_drew));exact Kd.R_mono HO_8.out (fun _ hk=>⟨hk.2,hk.1⟩)),(by (with_reducible repeat (first|apply Kd.R_alloc|apply Kd.R_drewN|apply Kd.R_drew));exact Kd.R_mono HO_9.out (fun _ hk=>⟨hk.2,hk.1⟩)),(by (with_reducible repeat (first|refine blk_drewN ?_ _|refine blk_drew ?_|refine blk_alloc ?_ _));exact BK245.out),(by (with_reducible repeat (first|refine blk_drewN ?_ _|refine blk_drew ?_|refine blk_alloc ?_ _));exact BK246.out),(by (with_reducible repeat (first|refine blk_drewN ?_ _|refine blk_drew ?_|refine blk_alloc ?_ _));exact BK270.out),GW270.out,GE270.out,NB245_270.out,NB270_245.out,NB246_270.out,NB270_246.out,(by repeat (first|(with_reducible first|exact HB.out|apply below_alloc|apply pw_below_drewN|apply below_drew1|refine below_set ?_ GE245.out|refine below_set ?_ GE246.out|refine below_set ?_ GE270.out)|exact HB.out))⟩)
       ·skip
        refine box_step ?hg (N:=15) ?hd (cs:=#[.string (⟨#[]⟩:ByteArray), .slice none 0 0, .bool false, .string (⟨#[]⟩:ByteArray)]) (t:=24) ?hr ?_;(case hd=>rfl);(case hg=>rfl);(case hr=>first|(go_simp;done)|(go_simp;rfl))
        intro gb270 hg w74 hbox hb
        have n0_:=Aside0.mk (Kd.R_below (by (with_reducible repeat (first|apply Kd.R_alloc|apply Kd.R_drewN|apply Kd.R_drew));exact HO_8.out) hb)
        have n1_:=Aside0.mk (Kd.R_below (by (with_reducible repeat (first|apply Kd.R_alloc|apply Kd.R_drewN|apply Kd.R_drew));exact HO_9.out) hb)
        have n2_:=Aside0.mk (blk_below (g:=gb245) (o:=.cells #[.string a0_0, .slice A0_1 l0_1.length c0_1, .bool a0_2, .string a0_3] 24 (0,0)) (by (with_reducible repeat (first|refine blk_drewN ?_ _|refine blk_drew ?_|refine blk_alloc ?_ _));exact BK245.out) hb)
        have n3_:=Aside0.mk (blk_below (g:=gb246) (o:=.cells #[.string x247000_1, .slice none 0 0, .bool x247002_1, .string x247003_1] 24 (0,0)) (by (with_reducible repeat (first|refine blk_drewN ?_ _|refine blk_drew ?_|refine blk_alloc ?_ _));exact BK246.out) hb)
        have n4_:=Aside0.mk (below_step (by repeat (first|(with_reducible first|exact HB.out|apply below_alloc|apply pw_below_drewN|apply below_drew1|refine below_set ?_ GE245.out|refine below_set ?_ GE246.out)|exact HB.out)) hb)
        have n5_:=Aside0.mk (hbox)
        have n6_:=Aside0.mk ((by rw [hg];exact (below_size (by repeat (first|(with_reducible first|exact HB.out|apply below_alloc|apply pw_below_drewN|apply below_drew1|refine below_set ?_ GE245.out|refine below_set ?_ GE246.out)|exact HB.out))):w.heap.size ≤ gb270))
        have n7_:=Aside0.mk ((by rw [hg];exact (below_size (by repeat (first|(with_reducible first|exact HB.out|apply below_alloc|apply pw_below_drewN|apply below_drew1|refine below_set ?_ GE245.out|refine below_set ?_ GE246.out)|exact HB.out))):w.heap.size ≤ gb270))
        have n8_:=Aside0.mk ((by rw [hg];exact Nat.ne_of_lt (blk_lt (g:=gb245) (o:=.cells #[.string a0_0, .slice A0_1 l0_1.length c0_1, .bool a0_2, .string a0_3] 24 (0,0)) (by (with_reducible repeat (first|refine blk_drewN ?_ _|refine blk_drew ?_|refine blk_alloc ?_ _));exact BK245.out)):gb245 ≠ gb270))
        have n9_:=Aside0.mk ((by rw [hg];exact Nat.ne_of_gt (blk_lt (g:=gb245) (o:=.cells #[.string a0_0, .slice A0_1 l0_1.length c0_1, .bool a0_2, .string a0_3] 24 (0,0)) (by (with_reducible repeat (first|refine blk_drewN ?_ _|refine blk_drew ?_|refine blk_alloc ?_ _));exact BK245.out)):gb270 ≠ gb245))
        have n10_:=Aside0.mk ((by rw [hg];exact Nat.ne_of_lt (blk_lt (g:=gb246) (o:=.cells #[.string x247000_1, .slice none 0 0, .bool x247002_1, .string x247003_1] 24 (0,0)) (by (with_reducible repeat (first|refine blk_drewN ?_ _|refine blk_drew ?_|refine blk_alloc ?_ _));exact BK246.out)):gb246 ≠ gb270))
        have n11_:=Aside0.mk ((by rw [hg];exact Nat.ne_of_gt (blk_lt (g:=gb246) (o:=.cells #[.string x247000_1, .slice none 0 0, .bool x247002_1, .string x247003_1] 24 (0,0)) (by (with_reducible repeat (first|refine blk_drewN ?_ _|refine blk_drew ?_|refine blk_alloc ?_ _));exact BK246.out)):gb270 ≠ gb246))
        clear HO_8
        clear HO_9
        clear BK245
        clear BK246
        clear HB
        have HO_8:=n0_
        have HO_9:=n1_
        have BK245:=n2_
        have BK246:=n3_
        have HB:=n4_
        have BK270:=n5_
        have GW270:=n6_
        have GE270:=n7_
        have NB245_270:=n8_
        have NB270_245:=n9_
        have NB246_270:=n10_
        have NB270_246:=n11_
        clear n0_ n1_ n2_ n3_ n4_ n5_ n6_ n7_ n8_ n9_ n10_ n11_
        clear hb hbox hg
        refine hK.out _ _ ⟨(blk_cell BK245.out 0).trans rfl,(blk_cell BK245.out 1).trans rfl,(blk_cell BK245.out 2).trans rfl,(blk_cell BK245.out 3).trans rfl⟩ (fun hHeld=>?_)
        clear hK K
        refine norm_ (a':=?_) ?_ ?_
        rotate_left
        ·show Act.put _ (some 15) _ = _
         simp only [Act.put,List.setIfInBounds_toArray,List.set_cons_zero,List.set_cons_succ,i64_w,i32_w]
         rfl
        refine one_ (i:=3) (N:=some 57) #[true,true,true,true,true,true,false,true,false] rfl rfl (one_of HT_.out (by kernel_rfl)) (by decide) (fun K hK=>?_)
        refine goes_ Tryd.func55 (by kernel_rfl) rfl #[.slice Ao72 x8_1.length co72] (by rfl) rfl rfl (by (try simp only [List.map_toArray,List.map_cons,List.map_nil]);first|done|rfl|(simp only [List.length_drop,List.length_take];rfl)) ?_
        with_reducible refine (spec_PathClean.calls k1 _ _ x8_1 t267 _ ?side1 ?side2 A27.out).mono ?_
        (case side1=>repeat (first|exact (Kd.R_reads' HO_8.out).2.2|(with_reducible refine Kd.C_alloc ?_ _)|(with_reducible refine Kd.C_drewN ?_ _)|(with_reducible refine Kd.C_drew ?_)))
        (case side2=>exact (Kd.R_reads' HO_8.out).2.1)
        rintro e w75 ⟨v268,rfl,ho0,hb⟩
        refine ⟨_,rfl,?_⟩
        have n0_:=Aside0.mk (Kd.R_elder' (by (with_reducible repeat (first|apply Kd.R_alloc|apply Kd.R_drewN|apply Kd.R_drew));exact HO_8.out) (Kd.R_base ho0) hb)
        have n1_:=Aside0.mk (Kd.R_elder' (by (with_reducible repeat (first|apply Kd.R_alloc|apply Kd.R_drewN|apply Kd.R_drew));exact HO_9.out) (Kd.R_base ho0) hb)
        have n2_:=Aside0.mk (Kd.R_lower (Kd.R_new' (Kd.R_new' ho0 (Kd.R_lt (by (with_reducible repeat (first|apply Kd.R_alloc|apply Kd.R_drewN|apply Kd.R_drew));exact HO_8.out))) (Kd.R_lt (by (with_reducible repeat (first|apply Kd.R_alloc|apply Kd.R_drewN|apply Kd.R_drew));exact HO_9.out))) (below_size (by repeat (first|(with_reducible first|exact HB.out|apply below_alloc|apply pw_below_drewN|apply below_drew1|refine below_set ?_ GE245.out|refine below_set ?_ GE246.out|refine below_set ?_ GE270.out)|exact HB.out))))
        have n3_:=Aside0.mk (blk_below (g:=gb245) (o:=.cells #[.string a0_0, .slice A0_1 l0_1.length c0_1, .bool a0_2, .string a0_3] 24 (0,0)) (by (with_reducible repeat (first|refine blk_drewN ?_ _|refine blk_drew ?_|refine blk_alloc ?_ _));exact BK245.out) hb)
        have n4_:=Aside0.mk (blk_below (g:=gb246) (o:=.cells #[.string x247000_1, .slice none 0 0, .bool x247002_1, .string x247003_1] 24 (0,0)) (by (with_reducible repeat (first|refine blk_drewN ?_ _|refine blk_drew ?_|refine blk_alloc ?_ _));exact BK246.out) hb)
        have n5_:=Aside0.mk (blk_below (g:=gb270) (o:=.cells #[.string (⟨#[]⟩:ByteArray), .slice none 0 0, .bool false, .string (⟨#[]⟩:ByteArray)] 24 (0,0)) (by (with_reducible repeat (first|refine blk_drewN ?_ _|refine blk_drew ?_|refine blk_alloc ?_ _));exact BK270.out) hb)
        have n6_:=Aside0.mk (below_step (by repeat (first|(with_reducible first|exact HB.out|apply below_alloc|apply pw_below_drewN|apply below_drew1|refine below_set ?_ GE245.out|refine below_set ?_ GE246.out|refine below_set ?_ GE270.out)|exact HB.out)) hb)
        clear HO_8
        clear HO_9
        clear BK245
        clear BK246
        clear BK270
        clear HB
        have HO_8:=n0_
        have HO_9:=n1_
        have HO269:=n2_
        have BK245:=n3_
        have BK246:=n4_
        have BK270:=n5_
        have HB:=n6_
        clear n0_ n1_ n2_ n3_ n4_ n5_ n6_
        (try clear hb)
        (try clear hb2)
        (try clear hk)
        (try clear hi)
        (try clear ho0)
        obtain ⟨Ao76,co76,eo76⟩:=Kd.R_slice HO269.out
        (first|subst eo76|(injection eo76 with f1_ f2_ f3_;have f4_:=f1_.symm;have f5_:=f3_.symm;clear f1_ f2_ f3_;subst f4_;subst f5_))
        refine hK.out _ _ ⟨(blk_cell BK245.out 0).trans rfl,(blk_cell BK245.out 1).trans rfl,(blk_cell BK245.out 2).trans rfl,(blk_cell BK245.out 3).trans rfl⟩ (fun hHeld=>?_)
        clear hK K
        refine norm_ (a':=?_) ?_ ?_
        rotate_left
        ·show Act.put _ (some 57) _ = _
         simp only [Act.put,List.setIfInBounds_toArray,List.set_cons_zero,List.set_cons_succ,i64_w,i32_w]
         rfl
        refine pure_ (i:=6) (N:=some 60) (v:=?_) (a':=?_) #[true,true,true,true,true,true,true,true,false] rfl rfl (any_of HT_.out (by kernel_rfl)) (fun _ _ _ h=>h) (Or.inl ⟨by rfl,?_⟩) ?_ ?_
        rotate_left
        ·intro w'
         go_simp
         with_reducible rfl
        rotate_left
        ·simp only [Act.put,List.setIfInBounds_toArray,List.set_cons_zero,List.set_cons_succ,i64_w,i32_w]
         rfl
        exact norm_ (by simp only [putAll,Act.put,List.setIfInBounds_toArray,List.set_cons_zero,List.set_cons_succ]) (hCont (.slice Ao76 t267.length co76,gb270) _ ⟨hHeld,(by (with_reducible repeat (first|apply Kd.R_alloc|apply Kd.R_drewN|apply Kd.R_drew));exact Kd.R_mono HO269.out (fun _ hk=>⟨hk.1.2,hk.2⟩)),(by (with_reducible repeat (first|apply Kd.R_alloc|apply Kd.R_drewN|apply Kd.R_drew));exact Kd.R_mono HO_8.out (fun _ hk=>⟨hk.2,hk.1⟩)),(by (with_reducible repeat (first|apply Kd.R_alloc|apply Kd.R_drewN|apply Kd.R_drew));exact Kd.R_mono HO_9.out (fun _ hk=>⟨hk.2,hk.1⟩)),(by (with_reducible repeat (first|refine blk_drewN ?_ _|refine blk_drew ?_|refine blk_alloc ?_ _));exact BK245.out),(by (with_reducible repeat (first|refine blk_drewN ?_ _|refine blk_drew ?_|refine blk_alloc ?_ _));exact BK246.out),(by (with_reducible repeat (first|refine blk_drewN ?_ _|refine blk_drew ?_|refine blk_alloc ?_ _));exact BK270.out),GW270.out,GE270.out,NB245_270.out,NB270_245.out,NB246_270.out,NB270_246.out,(by repeat (first|(with_reducible first|exact HB.out|apply below_alloc|apply pw_below_drewN|apply below_drew1|refine below_set ?_ GE245.out|refine below_set ?_ GE246.out|refine below_set ?_ GE270.out)|exact HB.out))⟩)
      rintro ⟨v268,gb270⟩ w77 ⟨hS_,h0_,h1_,h2_,h3_,h4_,h5_,h6_,h7_,h8_,h9_,h10_,h11_,h12_⟩
      have n0_:Aside0 (Kd.R Kd.string 9 w77 w.heap.size (fun k_=>some k_ ≠ (.slice Ao72 x8_1.length co72:Value).ownBlock ∧ some k_ ≠ (.slice Ao70 t256.length co70:Value).ownBlock) v268 t267):=⟨h0_⟩
      have n1_:Aside0 (Kd.R Kd.string 9 w77 w.heap.size (fun k_=>some k_ ≠ (v268:Value).ownBlock ∧ some k_ ≠ (.slice Ao70 t256.length co70:Value).ownBlock) (.slice Ao72 x8_1.length co72) x8_1):=⟨h1_⟩
      have n2_:Aside0 (Kd.R Kd.string 9 w77 w.heap.size (fun k_=>some k_ ≠ (v268:Value).ownBlock ∧ some k_ ≠ (.slice Ao72 x8_1.length co72:Value).ownBlock) (.slice Ao70 t256.length co70) t256):=⟨h2_⟩
      have n3_:Aside0 (w77.heap[gb245]? = some (.cells #[.string a0_0, .slice A0_1 l0_1.length c0_1, .bool a0_2, .string a0_3] 24 (0,0))):=⟨h3_⟩
      have n4_:Aside0 (w77.heap[gb246]? = some (.cells #[.string x247000_1, .slice none 0 0, .bool x247002_1, .string x247003_1] 24 (0,0))):=⟨h4_⟩
      have n5_:Aside0 (w77.heap[gb270]? = some (.cells #[.string (⟨#[]⟩:ByteArray), .slice none 0 0, .bool false, .string (⟨#[]⟩:ByteArray)] 24 (0,0))):=⟨h5_⟩
      have n6_:Aside0 (w.heap.size ≤ gb270):=⟨h6_⟩
      have n7_:Aside0 (w.heap.size ≤ gb270):=⟨h7_⟩
      have n8_:Aside0 (gb245 ≠ gb270):=⟨h8_⟩
      have n9_:Aside0 (gb270 ≠ gb245):=⟨h9_⟩
      have n10_:Aside0 (gb246 ≠ gb270):=⟨h10_⟩
      have n11_:Aside0 (gb270 ≠ gb246):=⟨h11_⟩
      have n12_:Aside0 (Below w.heap.size w w77):=⟨h12_⟩
      clear HO_8
      clear HO_9
      clear BK245
      clear BK246
      clear HB
      clear h0_ h1_ h2_ h3_ h4_ h5_ h6_ h7_ h8_ h9_ h10_ h11_ h12_
      have HO269:=n0_
      have HO_8:=n1_
      have HO_9:=n2_
      have BK245:=n3_
      have BK246:=n4_
      have BK270:=n5_
      have GW270:=n6_
      have GE270:=n7_
      have NB245_270:=n8_
      have NB270_245:=n9_
      have NB246_270:=n10_
      have NB270_246:=n11_
      have HB:=n12_
      clear n0_ n1_ n2_ n3_ n4_ n5_ n6_ n7_ n8_ n9_ n10_ n11_ n12_
      have hHeld:w77.cell? ⟨gb245,0,none⟩ = some (.string a0_0) ∧ w77.cell? ⟨gb245,1,none⟩ = some (.slice A0_1 l0_1.length c0_1) ∧ w77.cell? ⟨gb245,2,none⟩ = some (.bool a0_2) ∧ w77.cell? ⟨gb245,3,none⟩ = some (.string a0_3):=hS_
      obtain ⟨Ao78,co78,eo78⟩:=Kd.R_slice HO269.out
      (first|subst eo78|(injection eo78 with f1_ f2_ f3_;have f4_:=f1_.symm;have f5_:=f3_.symm;clear f1_ f2_ f3_;subst f4_;subst f5_))
      refine norm_ (a':=?_) ?_ ?_
      rotate_left
      ·simp only [putAll,Act.put,List.setIfInBounds_toArray,List.set_cons_zero,List.set_cons_succ]
       rfl
      refine one_ (i:=8) (N:=none) #[true,true,true,true,true,true,true,true,true] rfl rfl (one_of HT_.out (by kernel_rfl)) (by decide) (fun K hK=>?_)
      have hs79:w77.cell? ⟨gb270,0,none⟩ = some (.string (⟨#[]⟩:ByteArray)):=(blk_cell BK270.out 0).trans rfl
      have hfs79:=blk_frozen BK270.out 0
      have hns79_0:=NB245_270.out
      have hns79_1:=NB246_270.out
      have hms79_0:=NB270_245.out
      have hms79_1:=NB270_246.out
      have hs80:w77.cell? ⟨gb270,1,none⟩ = some (.slice none 0 0):=(blk_cell BK270.out 1).trans rfl
      have hfs80:=blk_frozen BK270.out 1
      have hns80_0:=NB245_270.out
      have hns80_1:=NB246_270.out
      have hms80_0:=NB270_245.out
      have hms80_1:=NB270_246.out
      have hs81:w77.cell? ⟨gb270,2,none⟩ = some (.bool false):=(blk_cell BK270.out 2).trans rfl
      have hfs81:=blk_frozen BK270.out 2
      have hns81_0:=NB245_270.out
      have hns81_1:=NB246_270.out
      have hms81_0:=NB270_245.out
      have hms81_1:=NB270_246.out
      have hs82:w77.cell? ⟨gb270,3,none⟩ = some (.string (⟨#[]⟩:ByteArray)):=(blk_cell BK270.out 3).trans rfl
      have hfs82:=blk_frozen BK270.out 3
      have hns82_0:=NB245_270.out
      have hns82_1:=NB246_270.out
      have hms82_0:=NB270_245.out
      have hms82_1:=NB270_246.out
      refine skip_ (w1:=?_) (by rfl) rfl ?_ ?_
      rotate_left
      ·go_simp
       rfl
      refine hK.out _ _ ⟨((cell_far (p:=⟨gb270,_,none⟩) NB245_270.out _).trans (((cell_far (p:=⟨gb270,_,none⟩) NB245_270.out _).trans (((cell_far (p:=⟨gb270,_,none⟩) NB245_270.out _).trans (((cell_far (p:=⟨gb270,_,none⟩) NB245_270.out _).trans (hHeld.1)))))))),((cell_far (p:=⟨gb270,_,none⟩) NB245_270.out _).trans (((cell_far (p:=⟨gb270,_,none⟩) NB245_270.out _).trans (((cell_far (p:=⟨gb270,_,none⟩) NB245_270.out _).trans (((cell_far (p:=⟨gb270,_,none⟩) NB245_270.out _).trans (hHeld.2.1)))))))),((cell_far (p:=⟨gb270,_,none⟩) NB245_270.out _).trans (((cell_far (p:=⟨gb270,_,none⟩) NB245_270.out _).trans (((cell_far (p:=⟨gb270,_,none⟩) NB245_270.out _).trans (((cell_far (p:=⟨gb270,_,none⟩) NB245_270.out _).trans (hHeld.2.2.1)))))))),((cell_far (p:=⟨gb270,_,none⟩) NB245_270.out _).trans (((cell_far (p:=⟨gb270,_,none⟩) NB245_270.out _).trans (((cell_far (p:=⟨gb270,_,none⟩) NB245_270.out _).trans (((cell_far (p:=⟨gb270,_,none⟩) NB245_270.out _).trans (hHeld.2.2.2))))))))⟩ (fun hHeld=>?_)
      clear hK K
      refine done_ (done_of HT_.out (by kernel_rfl)) ?_
      have hnb83:=NB246_245.out
      have hnc83:=NB245_246.out
      have hnb84:=NB246_270.out
      have hnc84:=NB270_246.out
      have hcz85_0:w77.cell? ⟨gb246,0,none⟩ = some (.string x247000_1):=(blk_cell BK246.out 0).trans rfl
      have hcz85_1:w77.cell? ⟨gb246,1,none⟩ = some (.slice none 0 0):=(blk_cell BK246.out 1).trans rfl
      have hcz85_2:w77.cell? ⟨gb246,2,none⟩ = some (.bool x247002_1):=(blk_cell BK246.out 2).trans rfl
      have hcz85_3:w77.cell? ⟨gb246,3,none⟩ = some (.string x247003_1):=(blk_cell BK246.out 3).trans rfl
      have hfz85_0:=blk_frozen BK246.out 0
      have hfz85_1:=blk_frozen BK246.out 1
      have hfz85_2:=blk_frozen BK246.out 2
      have hfz85_3:=blk_frozen BK246.out 3
      try go_wp2
      refine bodyPost_ret (results_ct rfl _ _ gb246 24 #[.string (⟨#[]⟩:ByteArray), .slice none 0 0, .bool false, .string (⟨#[]⟩:ByteArray)] (0,0) _ rfl (by (with_reducible repeat (first|refine blk_drewN ?_ _|refine blk_drew ?_|refine blk_alloc ?_ _));refine blk_put (cs:=#[.string (⟨#[]⟩:ByteArray), .slice none 0 0, .bool false, .string x247003_1]) ?_ 3 _ rfl;(with_reducible repeat (first|refine blk_drewN ?_ _|refine blk_drew ?_|refine blk_alloc ?_ _));refine blk_put (cs:=#[.string (⟨#[]⟩:ByteArray), .slice none 0 0, .bool x247002_1, .string x247003_1]) ?_ 2 _ rfl;(with_reducible repeat (first|refine blk_drewN ?_ _|refine blk_drew ?_|refine blk_alloc ?_ _));refine blk_put (cs:=#[.string (⟨#[]⟩:ByteArray), .slice none 0 0, .bool x247002_1, .string x247003_1]) ?_ 1 _ rfl;(with_reducible repeat (first|refine blk_drewN ?_ _|refine blk_drew ?_|refine blk_alloc ?_ _));refine blk_put (cs:=#[.string x247000_1, .slice none 0 0, .bool x247002_1, .string x247003_1]) ?_ 0 _ rfl;(with_reducible repeat (first|refine blk_drewN ?_ _|refine blk_drew ?_|refine blk_alloc ?_ _));refine blk_far ?_ NB246_270.out _;(with_reducible repeat (first|refine blk_drewN ?_ _|refine blk_drew ?_|refine blk_alloc ?_ _));refine blk_far ?_ NB246_270.out _;(with_reducible repeat (first|refine blk_drewN ?_ _|refine blk_drew ?_|refine blk_alloc ?_ _));refine blk_far ?_ NB246_270.out _;(with_reducible repeat (first|refine blk_drewN ?_ _|refine blk_drew ?_|refine blk_alloc ?_ _));refine blk_far ?_ NB246_270.out _;(with_reducible repeat (first|refine blk_drewN ?_ _|refine blk_drew ?_|refine blk_alloc ?_ _));exact BK246.out) Tryd.underlying24 rfl (by kernel_rfl)) rfl ?_
      exact ⟨_,by first|rfl|(simp <;> rfl)|(simp [*] <;> rfl),by first|exact Kd.R_nil _ _ _ _ _|exact Kd.N_nil _ _ _ _ _|exact Kd.V_nil _ _ _ _ _|exact Kd.Q_nil _ _ _ _ _|exact Kd.S_nil _ _ _ _ _,by repeat (first|(with_reducible first|exact HB.out|apply below_alloc|apply pw_below_drewN|apply below_drew1|refine below_set ?_ GE245.out|refine below_set ?_ GE246.out|refine below_set ?_ GE270.out)|exact HB.out)⟩
 ·rw [if_neg c4] at H
  exact absurd H (by simp)

/-! ### spec_l1Small: function 39 -/
/-- A letter, small. -/
def spec_l1Small.lo (x:Int):Int:=if 65 ≤ x ∧ x ≤ 90 then x + 32 else x
def spec_l1Small.f (a0:ByteArray):Option ByteArray:=if a0.size ≤ 1000000 then some (strOfNums ((bytesOf a0).map spec_l1Small.lo)) else none
/-- The first k bytes are small ones. -/
def spec_l1Small.upto (xs:List Int) (k:Nat):List Int:=(xs.take k).map spec_l1Small.lo ++ xs.drop k
/-- The new row holds these bytes, in front. -/
def spec_l1Small.Row (w wr:World) (e:Nat) (xs:List Int):Prop :=
 Below w.heap.size w wr ∧ ∃ C:Array Value,wr.heap[w.heap.size]? = some (.cells C e (C.size,C.size + 1)) ∧ xs.length ≤ C.size ∧ ∀ j,j < xs.length → C[j]? = some (.int .u8 (xs.getD j 0))
theorem spec_l1Small.upto_length (xs:List Int) (k:Nat):(spec_l1Small.upto xs k).length = xs.length:=by
 unfold spec_l1Small.upto;simp;omega
theorem spec_l1Small.upto_at (xs:List Int) (k:Nat) (h:k < xs.length):(spec_l1Small.upto xs k).getD k 0 = xs.getD k 0:=by
 unfold spec_l1Small.upto
 rw [List.getD_eq_getElem?_getD,List.getElem?_append_right (by simp;omega)]
 simp only [List.length_map,List.length_take,List.getElem?_drop,List.getD_eq_getElem?_getD]
 rw [show k + (k - min k xs.length) = k by omega]
theorem spec_l1Small.upto_succ (xs:List Int) (k:Nat) (h:k < xs.length):spec_l1Small.upto xs (k + 1) = (spec_l1Small.upto xs k).set k (spec_l1Small.lo (xs.getD k 0)):=by
 unfold spec_l1Small.upto
 have hl:((xs.take k).map spec_l1Small.lo).length = k:=by simp;omega
 rw [List.set_append_right k _ (by omega),hl,Nat.sub_self,List.drop_eq_getElem_cons h,List.set_cons_zero,List.take_succ_eq_append_getElem h,List.map_append,List.getD_eq_getElem?_getD,List.getElem?_eq_getElem h]
 simp
theorem spec_l1Small.upto_same (xs:List Int) (k:Nat) (h:k < xs.length) (hn:¬ (65 ≤ xs.getD k 0 ∧ xs.getD k 0 ≤ 90)):spec_l1Small.upto xs (k + 1) = spec_l1Small.upto xs k:=by
 rw [spec_l1Small.upto_succ xs k h]
 have:spec_l1Small.lo (xs.getD k 0) = (spec_l1Small.upto xs k).getD k 0:=by
  rw [spec_l1Small.upto_at xs k h];unfold spec_l1Small.lo;rw [if_neg hn]
 rw [this,List.getD_eq_getElem?_getD,List.getElem?_eq_getElem (by rw [spec_l1Small.upto_length];exact h),Option.getD_some,List.set_getElem_self]
theorem spec_l1Small.upto_all (xs:List Int):spec_l1Small.upto xs xs.length = xs.map spec_l1Small.lo:=by
 unfold spec_l1Small.upto;simp
theorem spec_l1Small.Row.new (w:World) (e:Nat) (s:ByteArray):spec_l1Small.Row w (Lib.bytesWorld w e s) e (bytesOf s):=by
 refine ⟨⟨rfl,rfl,rfl,by rw [Lib.bytesWorld_size];omega,fun k hk=>Lib.bytesWorld_at_old w e s k hk⟩,_,Lib.bytesWorld_at_new w e s,?_,fun j hj=>?_⟩
 ·rw [bytesOf_length];simp [Lib.bytesCells]
 ·rw [bytesOf_length] at hj
  have h:=Lib.bytesWorld_cell w e s j hj
  simp only [World.cell?,Lib.bytesWorld_at_new] at h
  rw [show (bytesOf s).getD j 0 = ((s.data.toList.getD j 0).toNat:Int) by
   unfold bytesOf
   rw [List.getD_eq_getElem?_getD,List.getD_eq_getElem?_getD,List.getElem?_map]
   have:j < s.data.toList.length:=by rw [data_length];exact hj
   rw [List.getElem?_eq_getElem this];rfl]
  simpa using h
theorem spec_l1Small.Row.cell {w wr:World} {e:Nat} {xs:List Int} (h:spec_l1Small.Row w wr e xs) {j:Nat} (hj:j < xs.length):wr.cell? ⟨w.heap.size,j,none⟩ = some (.int .u8 (xs.getD j 0)):=by
 obtain ⟨_,C,hC,hl,hx⟩:=h
 simp only [World.cell?,hC]
 simpa using hx j hj
theorem spec_l1Small.Row.free {w wr:World} {e:Nat} {xs:List Int} (h:spec_l1Small.Row w wr e xs) {j:Nat} (hj:j < xs.length):wr.frozen? ⟨w.heap.size,j,none⟩ = false:=by
 obtain ⟨_,C,hC,hl,hx⟩:=h
 simp only [World.frozen?,hC]
 simp;omega
theorem spec_l1Small.Row.set {w wr:World} {e:Nat} {xs:List Int} (h:spec_l1Small.Row w wr e xs) (j:Nat) (x:Int):spec_l1Small.Row w (wr.setCell ⟨w.heap.size,j,none⟩ (.int .u8 x)) e (xs.set j x):=by
 obtain ⟨hb,C,hC,hl,hx⟩:=h
 refine ⟨below_set hb (Nat.le_refl _),C.setIfInBounds j (.int .u8 x),?_,by simpa using hl,fun i hi=>?_⟩
 ·simp [World.setCell,Array.getElem?_modify,hC]
 ·rw [List.length_set] at hi
  by_cases hij:i = j
  ·subst hij
   rw [Array.getElem?_setIfInBounds_self_of_lt (by omega),List.getD_eq_getElem?_getD,List.getElem?_set_self hi];rfl
  ·rw [Array.getElem?_setIfInBounds_ne (Ne.symm hij),hx i hi,List.getD_eq_getElem?_getD,List.getD_eq_getElem?_getD,List.getElem?_set_ne (Ne.symm hij)]
theorem spec_l1Small.Row.reads {w wr:World} {e:Nat} {xs:List Int} (h:spec_l1Small.Row w wr e xs) (hm:xs.length ≤ 1000000):ReadsInt wr .u8 (some ⟨w.heap.size,0,none⟩) xs.length xs:=by
 refine ⟨rfl,by omega,fun _=>⟨_,rfl,fun j hj=>?_⟩⟩
 rw [add_plain];exact h.cell hj
theorem spec_l1Small.byte_bd (s:ByteArray) (k:Nat):0 ≤ (bytesOf s).getD k 0 ∧ (bytesOf s).getD k 0 ≤ 255:=by
 have:=bt_range s k
 rw [← rd_bytesOf] at this
 simpa [rd] using this
theorem spec_l1Small.calls (a0:ByteArray) (r:ByteArray) (w:World) (h:spec_l1Small.f a0 = some r) :
  Calls Tryd.prog 39 #[.string a0] w fun e w'=>e = .returned (.string r) ∧ Below w.heap.size w w':=by
 have hs:a0.size ≤ 1000000:=by
  unfold spec_l1Small.f at h
  split at h
  ·assumption
  ·cases h
 have HR:=Aside0.mk (show strOfNums ((bytesOf a0).map spec_l1Small.lo) = r by
  unfold spec_l1Small.f at h
  rw [if_pos hs] at h
  exact Option.some.inj h)
 clear h
 obtain ⟨W0,cap,hcv,HW⟩:∃ W0 cap,(convert 9 30 (.string a0)).run Tryd.prog w = .ok (.slice (some ⟨w.heap.size,0,none⟩) a0.size cap) W0 ∧ Aside0 (spec_l1Small.Row w W0 5 (spec_l1Small.upto (bytesOf a0) 0)):=by
  refine ⟨_,_,Lib.run_convert_string_bytes w 9 30 5 a0 Tryd.underlying9 Tryd.underlying30 Tryd.underlying5,⟨?_⟩⟩
  have:=spec_l1Small.Row.new w 5 a0
  simpa [spec_l1Small.upto] using this
 go_enter Tryd.func39,Tryd.ntmps39
 go_wp2
 go_loopw [4] (fun v wr=>∃ k:Nat,k ≤ a0.size ∧ v = .int .i64 k ∧ Aside0 (spec_l1Small.Row w wr 5 (spec_l1Small.upto (bytesOf a0) k))) (fun v _=>a0.size - (intOf v).toNat)
 case atStart=>exact ⟨0,Nat.zero_le _,rfl,HW⟩
 case round =>
  clear hcv HW
  obtain ⟨k,hk,rfl,HK⟩:=hrel
  by_cases hlt:k < a0.size
  ·have HL:=Aside0.mk (bytesOf_length a0)
   have hbd:=spec_l1Small.byte_bd a0 k
   have hc:=HK.out.cell (j:=k) (by rw [spec_l1Small.upto_length,HL.out];exact hlt)
   rw [spec_l1Small.upto_at _ k (by rw [HL.out];exact hlt)] at hc
   have hf:=HK.out.free (j:=k) (by rw [spec_l1Small.upto_length,HL.out];exact hlt)
   generalize hx:(bytesOf a0).getD k 0 = x at hc hbd
   have HX:=Aside0.mk hx
   clear hx
   by_cases h1:65 ≤ x
   ·by_cases h2:x ≤ 90
    ·have HN:=Aside0.mk (HK.out.set k (x + 32))
     go_wp2
     go_roundw
     case rel=>exact ⟨k + 1,by omega,by go_num,⟨by
      rw [spec_l1Small.upto_succ _ k (by rw [HL.out];exact hlt),HX.out,show spec_l1Small.lo x = x + 32 by unfold spec_l1Small.lo;rw [if_pos ⟨h1,h2⟩]]
      exact HN.out⟩⟩
     case measure=>simp [intOf];omega
    ·go_wp2
     go_roundw
     case rel=>exact ⟨k + 1,by omega,by go_num,⟨by
      rw [spec_l1Small.upto_same _ k (by rw [HL.out];exact hlt) (by rw [HX.out];omega)]
      exact HK.out⟩⟩
     case measure=>simp [intOf];omega
   ·go_wp2
    go_roundw
    case rel=>exact ⟨k + 1,by omega,by go_num,⟨by
     rw [spec_l1Small.upto_same _ k (by rw [HL.out];exact hlt) (by rw [HX.out];omega)]
     exact HK.out⟩⟩
    case measure=>simp [intOf];omega
  ·obtain rfl:k = a0.size:=by omega
   have HL:=Aside0.mk (bytesOf_length a0)
   have hcb:(convert 30 9 (.slice (some ⟨w.heap.size,0,none⟩) a0.size cap)).run Tryd.prog wr = .ok (.string r) wr:=by
    have e:spec_l1Small.upto (bytesOf a0) a0.size = (bytesOf a0).map spec_l1Small.lo:=by
     rw [← HL.out];exact spec_l1Small.upto_all _
    have h:=HK.out
    rw [e] at h
    have hl:((bytesOf a0).map spec_l1Small.lo).length = a0.size:=by rw [List.length_map,HL.out]
    have hr:=h.reads (by omega)
    rw [hl] at hr
    rw [← HR.out]
    exact string_of_reads Tryd.underlying30 Tryd.underlying5 Tryd.underlying9 hr
   have HB:=Aside0.mk HK.out.1
   go_wp2
   go_ret
   exact ⟨rfl,HB.out⟩

/-! ### spec_l1Whole: function 20 -/
def spec_l1Whole.l0:Nat → ByteArray → ByteArray → ByteArray → Int → Option (ByteArray × List ByteArray × Bool × ByteArray × Bool)
 | 0,_,_,_,_=>none
 | k + 1,x0,x4,x5,x6=>if x6 < (x0.size:Int) then (if 0 ≤ x6 then (if (bt x0 x6) = 47 then (if x6 ≤ (x0.size:Int) then ((spec_l1Small.f (x0.extract 0 (x6:Int).toNat)).bind fun t273=>((spec_l1Way.f k t273 ([]:List ByteArray) false (⟨#[]⟩:ByteArray) (x0.extract (x6:Int).toNat x0.size)).bind fun bt274=>(some (bt274.1,bt274.2.1,bt274.2.2.1,bt274.2.2.2.1,bt274.2.2.2.2)))) else (none)) else (if (bt x0 x6) = 63 then (if x6 ≤ (x0.size:Int) then ((spec_l1Small.f (x0.extract 0 (x6:Int).toNat)).bind fun t281=>((spec_l1Way.f k t281 ([]:List ByteArray) false (⟨#[]⟩:ByteArray) (x0.extract (x6:Int).toNat x0.size)).bind fun bt282=>(some (bt282.1,bt282.2.1,bt282.2.2.1,bt282.2.2.2.1,bt282.2.2.2.2)))) else (none)) else (spec_l1Whole.l0 k x0 x4 x5 (wrap64 (x6 + 1))))) else (none)) else ((spec_l1Small.f x4).bind fun t289=>((spec_l1Way.f k t289 ([]:List ByteArray) false (⟨#[]⟩:ByteArray) x5).bind fun bt290=>(some (bt290.1,bt290.2.1,bt290.2.2.1,bt290.2.2.2.1,bt290.2.2.2.2))))
def spec_l1Whole.f (k:Nat) (a0:ByteArray):Option (ByteArray × List ByteArray × Bool × ByteArray × Bool):=spec_l1Whole.l0 k a0 a0 (⟨#[]⟩:ByteArray) 0
theorem spec_l1Whole.mono_l:∀ k,(∀ y0 y1 y2 y3,LeO (spec_l1Whole.l0 k y0 y1 y2 y3) (spec_l1Whole.l0 (k + 1) y0 y1 y2 y3))
 | 0=>fun _ _ _ _ r h=>by simp [spec_l1Whole.l0] at h
 | k + 1=>by
  have ih0:=spec_l1Whole.mono_l k
  ·intro y0 y1 y2 y3
   unfold spec_l1Whole.l0
   repeat' first
   | (with_reducible exact ih0 _ _ _ _)
   | (with_reducible exact spec_l1Way.mono _ _ _ _ _ _)
   | (with_reducible exact LeO.refl _)
   | (with_reducible exact LeO.none _)
   | (with_reducible refine LeO.ite ?_ ?_)
   | (with_reducible refine LeO.bind ?_ (fun _=>?_))
   | exact ih0 _ _ _ _
   | exact spec_l1Way.mono _ _ _ _ _ _
   | exact LeO.none _
   | refine LeO.ite ?_ ?_
   | refine LeO.bind ?_ (fun _=>?_)
theorem spec_l1Whole.mono:∀ a0 k,LeO (spec_l1Whole.f k a0) (spec_l1Whole.f (k + 1) a0):=by
 intro a0 k
 have ih0:=spec_l1Whole.mono_l k
 unfold spec_l1Whole.f
 repeat' first
   | (with_reducible exact ih0 _ _ _ _)
   | (with_reducible exact spec_l1Way.mono _ _ _ _ _ _)
   | (with_reducible exact LeO.refl _)
   | (with_reducible exact LeO.none _)
   | (with_reducible refine LeO.ite ?_ ?_)
   | (with_reducible refine LeO.bind ?_ (fun _=>?_))
   | exact ih0 _ _ _ _
   | exact spec_l1Way.mono _ _ _ _ _ _
   | exact LeO.none _
   | refine LeO.ite ?_ ?_
   | refine LeO.bind ?_ (fun _=>?_)
theorem spec_l1Whole.calls (k:Nat) (a0:ByteArray) (r1:ByteArray) (r2:List ByteArray) (r3:Bool) (r4:ByteArray) (r5:Bool) (w:World) (h:spec_l1Whole.f k a0 = some (r1,r2,r3,r4,r5)) :
  Calls Tryd.prog 20 #[.string a0] w fun e w'=>∃ v1_:Value,e = .returned (.tuple #[.agg #[.string r1,v1_, .bool r3, .string r4], .bool r5]) ∧ Kd.R Kd.string 9 w' w.heap.size (fun _=>True) v1_ r2 ∧ Below w.heap.size w w':=by
 have hu24:=Tryd.underlying24
 have HB:=Aside0.mk (Below.refl w.heap.size w)
 have H:(spec_l1Whole.l0 k a0 a0 (⟨#[]⟩:ByteArray) 0) = some (r1,r2,r3,r4,r5):=h
 clear h
 have H':=Aside0.mk H
 clear H
 go_enter Tryd.func20,Tryd.ntmps20
 go_wp2_with (first|((with_reducible refine gate_dst (N:=2) rfl ?_);refine box_event ?hg (N:=2) ?hd (cs:=#[.string (⟨#[]⟩:ByteArray), .slice none 0 0, .bool false, .string (⟨#[]⟩:ByteArray)]) (t:=24) ?hr ?_;(case hd=>rfl);(case hg=>rfl);(case hr=>first|(go_simp;done)|(go_simp;rfl));intro gb272 hg w2 hbox hb;have n0_:=Aside0.mk (below_step (by repeat (first|(with_reducible first|exact HB.out|apply below_alloc|apply pw_below_drewN|apply below_drew1)|exact HB.out)) hb);have n1_:=Aside0.mk (hbox);have n2_:=Aside0.mk ((by rw [hg];exact (below_size (by repeat (first|(with_reducible first|exact HB.out|apply below_alloc|apply pw_below_drewN|apply below_drew1)|exact HB.out))):w.heap.size ≤ gb272));have n3_:=n2_;clear HB;have HB:=n0_;have BK272:=n1_;have GW272:=n2_;have GE272:=n3_;clear n0_ n1_ n2_ n3_;clear hb hbox hg))
 go_loopg [4,5,6] k (fun kq v4 v5 v6 w'=>∃ (x4_1:ByteArray) (x5_1:ByteArray) (x6_1:Int),v4 = .string x4_1 ∧ v5 = .string x5_1 ∧ v6 = .int .i64 x6_1 ∧ Aside0 (spec_l1Whole.l0 kq a0 x4_1 x5_1 x6_1 = some (r1,r2,r3,r4,r5)) ∧ Aside0 (kq ≤ k) ∧ Aside0 (w'.heap[gb272]? = some (.cells #[.string (⟨#[]⟩:ByteArray),(.slice none 0 0), .bool false, .string (⟨#[]⟩:ByteArray)] 24 (0,0))) ∧ Aside0 (Below w.heap.size w w'))
 case atStart=>exact ⟨(a0),((⟨#[]⟩:ByteArray)),(0),(by first|rfl|(simp;done)|(simp only [i64_w,i32_w];done)|(simp only [i64_w,i32_w];rfl)|(simp [*];done)|(simp [emp_bne,emp_beq];done)),(by first|rfl|(simp;done)|(simp only [i64_w,i32_w];done)|(simp only [i64_w,i32_w];rfl)|(simp [*];done)|(simp [emp_bne,emp_beq];done)),(by first|rfl|(simp;done)|(simp only [i64_w,i32_w];done)|(simp only [i64_w,i32_w];rfl)|(simp [*];done)|(simp [emp_bne,emp_beq];done)),H',⟨Nat.le_refl _⟩,⟨by (with_reducible repeat (first|refine blk_drewN ?_ _|refine blk_drew ?_|refine blk_alloc ?_ _));exact BK272.out⟩,⟨by repeat (first|(with_reducible first|exact HB.out|apply below_alloc|apply pw_below_drewN|apply below_drew1|refine below_set ?_ GE272.out)|exact HB.out)⟩⟩
 case round =>
  clear H'
  try clear c2
  try clear p2
  obtain ⟨x4_1,x5_1,x6_1,rfl,rfl,rfl,HA,HK1,BK272,HB⟩:=hrel
  cases gk with
  | zero=>exact absurd HA.out (by simp [spec_l1Whole.l0])
  | succ k1 =>
   have H:=HA.out
   clear HA
   simp only [spec_l1Whole.l0] at H
   by_cases c3:x6_1 < (a0.size:Int)
   ·rw [if_pos c3] at H
    have c3b0:decide (x6_1 < (a0.size:Int)) = true:=decide_eq_true c3
    clear c3
    by_cases c4:0 ≤ x6_1
    ·rw [if_pos c4] at H
     have c4b0:decide (0 ≤ x6_1) = true:=decide_eq_true c4
     clear c4
     by_cases c6:(bt a0 x6_1) = 47
     ·rw [if_pos c6] at H
      have c6b0:((bt a0 x6_1) == 47) = true:=beq_iff_eq.mpr c6
      have c6b1:((bt a0 x6_1) != 47) = false:=bne_eq_false_iff_eq.mpr c6
      clear c6
      have c7b0:=eq_true (of_decide_eq_true (by first|(with_reducible assumption)|assumption):0 ≤ x6_1)
      by_cases c8:x6_1 ≤ (a0.size:Int)
      ·rw [if_pos c8] at H
       have c8b0:=eq_true c8
       have c8b1:=decide_eq_true c8
       clear c8
       have c9b0:=eq_true (of_decide_eq_true (by first|(with_reducible assumption)|assumption):0 ≤ x6_1)
       have c10b0:=eq_true (of_decide_eq_true (by first|(with_reducible assumption)|assumption):x6_1 ≤ (a0.size:Int))
       replace H:=Option.bind_eq_some_iff.mp H
       obtain ⟨t273,A110,H⟩:=H
       replace H:((spec_l1Way.f k1 t273 ([]:List ByteArray) false (⟨#[]⟩:ByteArray) (a0.extract (x6_1:Int).toNat a0.size)).bind fun bt274=>(some (bt274.1,bt274.2.1,bt274.2.2.1,bt274.2.2.2.1,bt274.2.2.2.2))) = some (r1,r2,r3,r4,r5):=H
       have A11:=Aside0.mk A110
       clear A110
       replace H:=Option.bind_eq_some_iff.mp H
       obtain ⟨⟨t274,t275,t278,t279,t280⟩,A120,H⟩:=H
       replace H:(some (t274,t275,t278,t279,t280)) = some (r1,r2,r3,r4,r5):=H
       have A12:=Aside0.mk A120
       clear A120
       simp only [Option.some.injEq,Prod.mk.injEq] at H
       obtain ⟨rfl,rfl,rfl,rfl,rfl⟩:=H
       have p5:0 ≤ (x6_1:Int):=of_decide_eq_true (by first|(with_reducible assumption)|assumption)
       have q5:x6_1 < (a0.size:Int):=of_decide_eq_true (by first|(with_reducible assumption)|assumption)
       have hx5:=bt_at a0 x6_1
       replace p5:=eq_true p5
       replace q5:=eq_true q5
       go_wp2_with (first|((with_reducible refine gate_callee (f:=39) rfl ?_);refine goesL_ (some 31) rfl rfl Tryd.func39 (by kernel_rfl) rfl #[.string (a0.extract 0 (x6_1:Int).toNat)] rfl (by (try simp only [List.map_toArray,List.map_cons,List.map_nil]);first|done|rfl|(simp only [List.length_drop,List.length_take];rfl)) ?_;(with_reducible refine (spec_l1Small.calls (a0.extract 0 (x6_1:Int).toNat) t273 _ A11.out).mono ?_);rintro e w13 ⟨rfl,hb⟩;refine ⟨_,rfl,?_⟩;have n0_:=Aside0.mk (blk_below (g:=gb272) (o:=.cells #[.string (⟨#[]⟩:ByteArray), .slice none 0 0, .bool false, .string (⟨#[]⟩:ByteArray)] 24 (0,0)) (by (with_reducible repeat (first|refine blk_drewN ?_ _|refine blk_drew ?_|refine blk_alloc ?_ _));exact BK272.out) hb);have n1_:=Aside0.mk (below_step (by repeat (first|(with_reducible first|exact HB.out|apply below_alloc|apply pw_below_drewN|apply below_drew1|refine below_set ?_ GE272.out)|exact HB.out)) hb);clear BK272;clear HB;have BK272:=n0_;have HB:=n1_;clear n0_ n1_;(try clear hb);(try clear hb2);(try clear hk);(try clear hi))|((with_reducible refine gate_callee (f:=38) rfl ?_);refine goesL_ (some 34) rfl rfl Tryd.func38 (by kernel_rfl) rfl #[.agg #[.string t273, .slice none 0 0, .bool false, .string (⟨#[]⟩:ByteArray)], .string (a0.extract (x6_1:Int).toNat a0.size)] rfl (by (try simp only [List.map_toArray,List.map_cons,List.map_nil]);first|done|rfl|(simp only [List.length_drop,List.length_take];rfl)) ?_;(refine (spec_l1Way.calls k1 t273 _ _ ([]:List ByteArray) false (⟨#[]⟩:ByteArray) (a0.extract (x6_1:Int).toNat a0.size) t274 t275 t278 t279 t280 _ ?side1 ?side2 A12.out).mono ?_);(case side1=>exact Kd.C_nil _ _);(case side2=>exact Nat.le_refl _);rintro e w14 ⟨v276,rfl,ho0,hb⟩;refine ⟨_,rfl,?_⟩;have n0_:=Aside0.mk (Kd.R_lower ho0 (below_size (by repeat (first|(with_reducible first|exact HB.out|apply below_alloc|apply pw_below_drewN|apply below_drew1|refine below_set ?_ GE272.out)|exact HB.out))));have n1_:=Aside0.mk (blk_below (g:=gb272) (o:=.cells #[.string (⟨#[]⟩:ByteArray), .slice none 0 0, .bool false, .string (⟨#[]⟩:ByteArray)] 24 (0,0)) (by (with_reducible repeat (first|refine blk_drewN ?_ _|refine blk_drew ?_|refine blk_alloc ?_ _));exact BK272.out) hb);have n2_:=Aside0.mk (below_step (by repeat (first|(with_reducible first|exact HB.out|apply below_alloc|apply pw_below_drewN|apply below_drew1|refine below_set ?_ GE272.out)|exact HB.out)) hb);clear BK272;clear HB;have HO277:=n0_;have BK272:=n1_;have HB:=n2_;clear n0_ n1_ n2_;(try clear hb);(try clear hb2);(try clear hk);(try clear hi);(try clear ho0);have hcz15_0:w14.cell? ⟨gb272,0,none⟩ = some (.string (⟨#[]⟩:ByteArray)):=(blk_cell BK272.out 0).trans rfl;have hcz15_1:w14.cell? ⟨gb272,1,none⟩ = some (.slice none 0 0):=(blk_cell BK272.out 1).trans rfl;have hcz15_2:w14.cell? ⟨gb272,2,none⟩ = some (.bool false):=(blk_cell BK272.out 2).trans rfl;have hcz15_3:w14.cell? ⟨gb272,3,none⟩ = some (.string (⟨#[]⟩:ByteArray)):=(blk_cell BK272.out 3).trans rfl;have hfz15_0:=blk_frozen BK272.out 0;have hfz15_1:=blk_frozen BK272.out 1;have hfz15_2:=blk_frozen BK272.out 2;have hfz15_3:=blk_frozen BK272.out 3;obtain ⟨Ao16,co16,eo16⟩:=Kd.R_slice HO277.out;subst eo16))
       refine bodyPost_ret (results_ct rfl _ _ gb272 24 #[.string t274, .slice Ao16 t275.length co16, .bool t278, .string t279] (0,0) _ rfl (by (with_reducible repeat (first|refine blk_drewN ?_ _|refine blk_drew ?_|refine blk_alloc ?_ _));refine blk_put (cs:=#[.string t274, .slice Ao16 t275.length co16, .bool t278, .string (⟨#[]⟩:ByteArray)]) ?_ 3 _ rfl;(with_reducible repeat (first|refine blk_drewN ?_ _|refine blk_drew ?_|refine blk_alloc ?_ _));refine blk_put (cs:=#[.string t274, .slice Ao16 t275.length co16, .bool false, .string (⟨#[]⟩:ByteArray)]) ?_ 2 _ rfl;(with_reducible repeat (first|refine blk_drewN ?_ _|refine blk_drew ?_|refine blk_alloc ?_ _));refine blk_put (cs:=#[.string t274, .slice none 0 0, .bool false, .string (⟨#[]⟩:ByteArray)]) ?_ 1 _ rfl;(with_reducible repeat (first|refine blk_drewN ?_ _|refine blk_drew ?_|refine blk_alloc ?_ _));refine blk_put (cs:=#[.string (⟨#[]⟩:ByteArray), .slice none 0 0, .bool false, .string (⟨#[]⟩:ByteArray)]) ?_ 0 _ rfl;(with_reducible repeat (first|refine blk_drewN ?_ _|refine blk_drew ?_|refine blk_alloc ?_ _));exact BK272.out) Tryd.underlying24 rfl (by kernel_rfl)) rfl ?_
       exact ⟨_,by first|rfl|(simp <;> rfl)|(simp [*] <;> rfl),by (with_reducible repeat (first|apply Kd.R_alloc|apply Kd.R_drewN|apply Kd.R_drew));exact Kd.R_mono (Kd.R_far (p:=⟨gb272,3,none⟩) (Kd.R_far (p:=⟨gb272,2,none⟩) (Kd.R_far (p:=⟨gb272,1,none⟩) (Kd.R_far (p:=⟨gb272,0,none⟩) (Kd.R_types HO277.out BK272.out (by decide)) (fun _ hk=>hk.2) (.string t274)) (fun _ hk=>hk.2) (.slice Ao16 t275.length co16)) (fun _ hk=>hk.2) (.bool t278)) (fun _ hk=>hk.2) (.string t279)) (fun _ hk=>trivial),by repeat (first|(with_reducible first|exact HB.out|apply below_alloc|apply pw_below_drewN|apply below_drew1|refine below_set ?_ GE272.out)|exact HB.out)⟩
      ·rw [if_neg c8] at H
       exact absurd H (by simp)
     ·rw [if_neg c6] at H
      have c6b0:((bt a0 x6_1) == 47) = false:=beq_eq_false_iff_ne.mpr c6
      have c6b1:((bt a0 x6_1) != 47) = true:=bne_iff_ne.mpr c6
      by_cases c18:(bt a0 x6_1) = 63
      ·rw [if_pos c18] at H
       have c18b0:((bt a0 x6_1) == 63) = true:=beq_iff_eq.mpr c18
       have c18b1:((bt a0 x6_1) != 63) = false:=bne_eq_false_iff_eq.mpr c18
       clear c18
       have c19b0:=eq_true (of_decide_eq_true (by first|(with_reducible assumption)|assumption):0 ≤ x6_1)
       by_cases c20:x6_1 ≤ (a0.size:Int)
       ·rw [if_pos c20] at H
        have c20b0:=eq_true c20
        have c20b1:=decide_eq_true c20
        clear c20
        have c21b0:=eq_true (of_decide_eq_true (by first|(with_reducible assumption)|assumption):0 ≤ x6_1)
        have c22b0:=eq_true (of_decide_eq_true (by first|(with_reducible assumption)|assumption):x6_1 ≤ (a0.size:Int))
        replace H:=Option.bind_eq_some_iff.mp H
        obtain ⟨t281,A230,H⟩:=H
        replace H:((spec_l1Way.f k1 t281 ([]:List ByteArray) false (⟨#[]⟩:ByteArray) (a0.extract (x6_1:Int).toNat a0.size)).bind fun bt282=>(some (bt282.1,bt282.2.1,bt282.2.2.1,bt282.2.2.2.1,bt282.2.2.2.2))) = some (r1,r2,r3,r4,r5):=H
        have A23:=Aside0.mk A230
        clear A230
        replace H:=Option.bind_eq_some_iff.mp H
        obtain ⟨⟨t282,t283,t286,t287,t288⟩,A240,H⟩:=H
        replace H:(some (t282,t283,t286,t287,t288)) = some (r1,r2,r3,r4,r5):=H
        have A24:=Aside0.mk A240
        clear A240
        simp only [Option.some.injEq,Prod.mk.injEq] at H
        obtain ⟨rfl,rfl,rfl,rfl,rfl⟩:=H
        have p5:0 ≤ (x6_1:Int):=of_decide_eq_true (by first|(with_reducible assumption)|assumption)
        have q5:x6_1 < (a0.size:Int):=of_decide_eq_true (by first|(with_reducible assumption)|assumption)
        have hx5:=bt_at a0 x6_1
        replace p5:=eq_true p5
        replace q5:=eq_true q5
        have p17:0 ≤ (x6_1:Int):=of_decide_eq_true (by first|(with_reducible assumption)|assumption)
        have q17:x6_1 < (a0.size:Int):=of_decide_eq_true (by first|(with_reducible assumption)|assumption)
        have hx17:=bt_at a0 x6_1
        replace p17:=eq_true p17
        replace q17:=eq_true q17
        go_wp2_with (first|((with_reducible refine gate_callee (f:=39) rfl ?_);refine goesL_ (some 31) rfl rfl Tryd.func39 (by kernel_rfl) rfl #[.string (a0.extract 0 (x6_1:Int).toNat)] rfl (by (try simp only [List.map_toArray,List.map_cons,List.map_nil]);first|done|rfl|(simp only [List.length_drop,List.length_take];rfl)) ?_;(with_reducible refine (spec_l1Small.calls (a0.extract 0 (x6_1:Int).toNat) t281 _ A23.out).mono ?_);rintro e w25 ⟨rfl,hb⟩;refine ⟨_,rfl,?_⟩;have n0_:=Aside0.mk (blk_below (g:=gb272) (o:=.cells #[.string (⟨#[]⟩:ByteArray), .slice none 0 0, .bool false, .string (⟨#[]⟩:ByteArray)] 24 (0,0)) (by (with_reducible repeat (first|refine blk_drewN ?_ _|refine blk_drew ?_|refine blk_alloc ?_ _));exact BK272.out) hb);have n1_:=Aside0.mk (below_step (by repeat (first|(with_reducible first|exact HB.out|apply below_alloc|apply pw_below_drewN|apply below_drew1|refine below_set ?_ GE272.out)|exact HB.out)) hb);clear BK272;clear HB;have BK272:=n0_;have HB:=n1_;clear n0_ n1_;(try clear hb);(try clear hb2);(try clear hk);(try clear hi))|((with_reducible refine gate_callee (f:=38) rfl ?_);refine goesL_ (some 34) rfl rfl Tryd.func38 (by kernel_rfl) rfl #[.agg #[.string t281, .slice none 0 0, .bool false, .string (⟨#[]⟩:ByteArray)], .string (a0.extract (x6_1:Int).toNat a0.size)] rfl (by (try simp only [List.map_toArray,List.map_cons,List.map_nil]);first|done|rfl|(simp only [List.length_drop,List.length_take];rfl)) ?_;(refine (spec_l1Way.calls k1 t281 _ _ ([]:List ByteArray) false (⟨#[]⟩:ByteArray) (a0.extract (x6_1:Int).toNat a0.size) t282 t283 t286 t287 t288 _ ?side1 ?side2 A24.out).mono ?_);(case side1=>exact Kd.C_nil _ _);(case side2=>exact Nat.le_refl _);rintro e w26 ⟨v284,rfl,ho0,hb⟩;refine ⟨_,rfl,?_⟩;have n0_:=Aside0.mk (Kd.R_lower ho0 (below_size (by repeat (first|(with_reducible first|exact HB.out|apply below_alloc|apply pw_below_drewN|apply below_drew1|refine below_set ?_ GE272.out)|exact HB.out))));have n1_:=Aside0.mk (blk_below (g:=gb272) (o:=.cells #[.string (⟨#[]⟩:ByteArray), .slice none 0 0, .bool false, .string (⟨#[]⟩:ByteArray)] 24 (0,0)) (by (with_reducible repeat (first|refine blk_drewN ?_ _|refine blk_drew ?_|refine blk_alloc ?_ _));exact BK272.out) hb);have n2_:=Aside0.mk (below_step (by repeat (first|(with_reducible first|exact HB.out|apply below_alloc|apply pw_below_drewN|apply below_drew1|refine below_set ?_ GE272.out)|exact HB.out)) hb);clear BK272;clear HB;have HO285:=n0_;have BK272:=n1_;have HB:=n2_;clear n0_ n1_ n2_;(try clear hb);(try clear hb2);(try clear hk);(try clear hi);(try clear ho0);have hcz27_0:w26.cell? ⟨gb272,0,none⟩ = some (.string (⟨#[]⟩:ByteArray)):=(blk_cell BK272.out 0).trans rfl;have hcz27_1:w26.cell? ⟨gb272,1,none⟩ = some (.slice none 0 0):=(blk_cell BK272.out 1).trans rfl;have hcz27_2:w26.cell? ⟨gb272,2,none⟩ = some (.bool false):=(blk_cell BK272.out 2).trans rfl;have hcz27_3:w26.cell? ⟨gb272,3,none⟩ = some (.string (⟨#[]⟩:ByteArray)):=(blk_cell BK272.out 3).trans rfl;have hfz27_0:=blk_frozen BK272.out 0;have hfz27_1:=blk_frozen BK272.out 1;have hfz27_2:=blk_frozen BK272.out 2;have hfz27_3:=blk_frozen BK272.out 3;obtain ⟨Ao28,co28,eo28⟩:=Kd.R_slice HO285.out;subst eo28))
        refine bodyPost_ret (results_ct rfl _ _ gb272 24 #[.string t282, .slice Ao28 t283.length co28, .bool t286, .string t287] (0,0) _ rfl (by (with_reducible repeat (first|refine blk_drewN ?_ _|refine blk_drew ?_|refine blk_alloc ?_ _));refine blk_put (cs:=#[.string t282, .slice Ao28 t283.length co28, .bool t286, .string (⟨#[]⟩:ByteArray)]) ?_ 3 _ rfl;(with_reducible repeat (first|refine blk_drewN ?_ _|refine blk_drew ?_|refine blk_alloc ?_ _));refine blk_put (cs:=#[.string t282, .slice Ao28 t283.length co28, .bool false, .string (⟨#[]⟩:ByteArray)]) ?_ 2 _ rfl;(with_reducible repeat (first|refine blk_drewN ?_ _|refine blk_drew ?_|refine blk_alloc ?_ _));refine blk_put (cs:=#[.string t282, .slice none 0 0, .bool false, .string (⟨#[]⟩:ByteArray)]) ?_ 1 _ rfl;(with_reducible repeat (first|refine blk_drewN ?_ _|refine blk_drew ?_|refine blk_alloc ?_ _));refine blk_put (cs:=#[.string (⟨#[]⟩:ByteArray), .slice none 0 0, .bool false, .string (⟨#[]⟩:ByteArray)]) ?_ 0 _ rfl;(with_reducible repeat (first|refine blk_drewN ?_ _|refine blk_drew ?_|refine blk_alloc ?_ _));exact BK272.out) Tryd.underlying24 rfl (by kernel_rfl)) rfl ?_
        exact ⟨_,by first|rfl|(simp <;> rfl)|(simp [*] <;> rfl),by (with_reducible repeat (first|apply Kd.R_alloc|apply Kd.R_drewN|apply Kd.R_drew));exact Kd.R_mono (Kd.R_far (p:=⟨gb272,3,none⟩) (Kd.R_far (p:=⟨gb272,2,none⟩) (Kd.R_far (p:=⟨gb272,1,none⟩) (Kd.R_far (p:=⟨gb272,0,none⟩) (Kd.R_types HO285.out BK272.out (by decide)) (fun _ hk=>hk.2) (.string t282)) (fun _ hk=>hk.2) (.slice Ao28 t283.length co28)) (fun _ hk=>hk.2) (.bool t286)) (fun _ hk=>hk.2) (.string t287)) (fun _ hk=>trivial),by repeat (first|(with_reducible first|exact HB.out|apply below_alloc|apply pw_below_drewN|apply below_drew1|refine below_set ?_ GE272.out)|exact HB.out)⟩
       ·rw [if_neg c20] at H
        exact absurd H (by simp)
      ·rw [if_neg c18] at H
       have c18b0:((bt a0 x6_1) == 63) = false:=beq_eq_false_iff_ne.mpr c18
       have c18b1:((bt a0 x6_1) != 63) = true:=bne_iff_ne.mpr c18
       have H':=Aside0.mk H
       clear H
       have p5:0 ≤ (x6_1:Int):=of_decide_eq_true (by first|(with_reducible assumption)|assumption)
       have q5:x6_1 < (a0.size:Int):=of_decide_eq_true (by first|(with_reducible assumption)|assumption)
       have hx5:=bt_at a0 x6_1
       replace p5:=eq_true p5
       replace q5:=eq_true q5
       have p17:0 ≤ (x6_1:Int):=of_decide_eq_true (by first|(with_reducible assumption)|assumption)
       have q17:x6_1 < (a0.size:Int):=of_decide_eq_true (by first|(with_reducible assumption)|assumption)
       have hx17:=bt_at a0 x6_1
       replace p17:=eq_true p17
       replace q17:=eq_true q17
       go_wp2
       go_roundg k1
       case measure=>have:=HK1.out;omega
       case rel=>exact ⟨(x4_1),(x5_1),(wrap64 (x6_1 + 1)),(by first|rfl|(simp;done)|(simp only [i64_w,i32_w];done)|(simp only [i64_w,i32_w];rfl)|(simp [*];done)|(simp [emp_bne,emp_beq];done)),(by first|rfl|(simp;done)|(simp only [i64_w,i32_w];done)|(simp only [i64_w,i32_w];rfl)|(simp [*];done)|(simp [emp_bne,emp_beq];done)),(by first|rfl|(simp;done)|(simp only [i64_w,i32_w];done)|(simp only [i64_w,i32_w];rfl)|(simp [*];done)|(simp [emp_bne,emp_beq];done)),H',⟨by have:=HK1.out;omega⟩,⟨by (with_reducible repeat (first|refine blk_drewN ?_ _|refine blk_drew ?_|refine blk_alloc ?_ _));exact BK272.out⟩,⟨by repeat (first|(with_reducible first|exact HB.out|apply below_alloc|apply pw_below_drewN|apply below_drew1|refine below_set ?_ GE272.out)|exact HB.out)⟩⟩
    ·rw [if_neg c4] at H
     exact absurd H (by simp)
   ·rw [if_neg c3] at H
    have c3b0:decide (x6_1 < (a0.size:Int)) = false:=decide_eq_false c3
    clear c3
    replace H:=Option.bind_eq_some_iff.mp H
    obtain ⟨t289,A290,H⟩:=H
    replace H:((spec_l1Way.f k1 t289 ([]:List ByteArray) false (⟨#[]⟩:ByteArray) x5_1).bind fun bt290=>(some (bt290.1,bt290.2.1,bt290.2.2.1,bt290.2.2.2.1,bt290.2.2.2.2))) = some (r1,r2,r3,r4,r5):=H
    have A29:=Aside0.mk A290
    clear A290
    replace H:=Option.bind_eq_some_iff.mp H
    obtain ⟨⟨t290,t291,t294,t295,t296⟩,A300,H⟩:=H
    replace H:(some (t290,t291,t294,t295,t296)) = some (r1,r2,r3,r4,r5):=H
    have A30:=Aside0.mk A300
    clear A300
    simp only [Option.some.injEq,Prod.mk.injEq] at H
    obtain ⟨rfl,rfl,rfl,rfl,rfl⟩:=H
    go_wp2_with (first|((with_reducible refine gate_callee (f:=39) rfl ?_);refine goesL_ (some 31) rfl rfl Tryd.func39 (by kernel_rfl) rfl #[.string x4_1] rfl (by (try simp only [List.map_toArray,List.map_cons,List.map_nil]);first|done|rfl|(simp only [List.length_drop,List.length_take];rfl)) ?_;(with_reducible refine (spec_l1Small.calls x4_1 t289 _ A29.out).mono ?_);rintro e w31 ⟨rfl,hb⟩;refine ⟨_,rfl,?_⟩;have n0_:=Aside0.mk (blk_below (g:=gb272) (o:=.cells #[.string (⟨#[]⟩:ByteArray), .slice none 0 0, .bool false, .string (⟨#[]⟩:ByteArray)] 24 (0,0)) (by (with_reducible repeat (first|refine blk_drewN ?_ _|refine blk_drew ?_|refine blk_alloc ?_ _));exact BK272.out) hb);have n1_:=Aside0.mk (below_step (by repeat (first|(with_reducible first|exact HB.out|apply below_alloc|apply pw_below_drewN|apply below_drew1|refine below_set ?_ GE272.out)|exact HB.out)) hb);clear BK272;clear HB;have BK272:=n0_;have HB:=n1_;clear n0_ n1_;(try clear hb);(try clear hb2);(try clear hk);(try clear hi))|((with_reducible refine gate_callee (f:=38) rfl ?_);refine goesL_ (some 34) rfl rfl Tryd.func38 (by kernel_rfl) rfl #[.agg #[.string t289, .slice none 0 0, .bool false, .string (⟨#[]⟩:ByteArray)], .string x5_1] rfl (by (try simp only [List.map_toArray,List.map_cons,List.map_nil]);first|done|rfl|(simp only [List.length_drop,List.length_take];rfl)) ?_;(refine (spec_l1Way.calls k1 t289 _ _ ([]:List ByteArray) false (⟨#[]⟩:ByteArray) x5_1 t290 t291 t294 t295 t296 _ ?side1 ?side2 A30.out).mono ?_);(case side1=>exact Kd.C_nil _ _);(case side2=>exact Nat.le_refl _);rintro e w32 ⟨v292,rfl,ho0,hb⟩;refine ⟨_,rfl,?_⟩;have n0_:=Aside0.mk (Kd.R_lower ho0 (below_size (by repeat (first|(with_reducible first|exact HB.out|apply below_alloc|apply pw_below_drewN|apply below_drew1|refine below_set ?_ GE272.out)|exact HB.out))));have n1_:=Aside0.mk (blk_below (g:=gb272) (o:=.cells #[.string (⟨#[]⟩:ByteArray), .slice none 0 0, .bool false, .string (⟨#[]⟩:ByteArray)] 24 (0,0)) (by (with_reducible repeat (first|refine blk_drewN ?_ _|refine blk_drew ?_|refine blk_alloc ?_ _));exact BK272.out) hb);have n2_:=Aside0.mk (below_step (by repeat (first|(with_reducible first|exact HB.out|apply below_alloc|apply pw_below_drewN|apply below_drew1|refine below_set ?_ GE272.out)|exact HB.out)) hb);clear BK272;clear HB;have HO293:=n0_;have BK272:=n1_;have HB:=n2_;clear n0_ n1_ n2_;(try clear hb);(try clear hb2);(try clear hk);(try clear hi);(try clear ho0);have hcz33_0:w32.cell? ⟨gb272,0,none⟩ = some (.string (⟨#[]⟩:ByteArray)):=(blk_cell BK272.out 0).trans rfl;have hcz33_1:w32.cell? ⟨gb272,1,none⟩ = some (.slice none 0 0):=(blk_cell BK272.out 1).trans rfl;have hcz33_2:w32.cell? ⟨gb272,2,none⟩ = some (.bool false):=(blk_cell BK272.out 2).trans rfl;have hcz33_3:w32.cell? ⟨gb272,3,none⟩ = some (.string (⟨#[]⟩:ByteArray)):=(blk_cell BK272.out 3).trans rfl;have hfz33_0:=blk_frozen BK272.out 0;have hfz33_1:=blk_frozen BK272.out 1;have hfz33_2:=blk_frozen BK272.out 2;have hfz33_3:=blk_frozen BK272.out 3;obtain ⟨Ao34,co34,eo34⟩:=Kd.R_slice HO293.out;subst eo34))
    refine bodyPost_ret (results_ct rfl _ _ gb272 24 #[.string t290, .slice Ao34 t291.length co34, .bool t294, .string t295] (0,0) _ rfl (by (with_reducible repeat (first|refine blk_drewN ?_ _|refine blk_drew ?_|refine blk_alloc ?_ _));refine blk_put (cs:=#[.string t290, .slice Ao34 t291.length co34, .bool t294, .string (⟨#[]⟩:ByteArray)]) ?_ 3 _ rfl;(with_reducible repeat (first|refine blk_drewN ?_ _|refine blk_drew ?_|refine blk_alloc ?_ _));refine blk_put (cs:=#[.string t290, .slice Ao34 t291.length co34, .bool false, .string (⟨#[]⟩:ByteArray)]) ?_ 2 _ rfl;(with_reducible repeat (first|refine blk_drewN ?_ _|refine blk_drew ?_|refine blk_alloc ?_ _));refine blk_put (cs:=#[.string t290, .slice none 0 0, .bool false, .string (⟨#[]⟩:ByteArray)]) ?_ 1 _ rfl;(with_reducible repeat (first|refine blk_drewN ?_ _|refine blk_drew ?_|refine blk_alloc ?_ _));refine blk_put (cs:=#[.string (⟨#[]⟩:ByteArray), .slice none 0 0, .bool false, .string (⟨#[]⟩:ByteArray)]) ?_ 0 _ rfl;(with_reducible repeat (first|refine blk_drewN ?_ _|refine blk_drew ?_|refine blk_alloc ?_ _));exact BK272.out) Tryd.underlying24 rfl (by kernel_rfl)) rfl ?_
    exact ⟨_,by first|rfl|(simp <;> rfl)|(simp [*] <;> rfl),by (with_reducible repeat (first|apply Kd.R_alloc|apply Kd.R_drewN|apply Kd.R_drew));exact Kd.R_mono (Kd.R_far (p:=⟨gb272,3,none⟩) (Kd.R_far (p:=⟨gb272,2,none⟩) (Kd.R_far (p:=⟨gb272,1,none⟩) (Kd.R_far (p:=⟨gb272,0,none⟩) (Kd.R_types HO293.out BK272.out (by decide)) (fun _ hk=>hk.2) (.string t290)) (fun _ hk=>hk.2) (.slice Ao34 t291.length co34)) (fun _ hk=>hk.2) (.bool t294)) (fun _ hk=>hk.2) (.string t295)) (fun _ hk=>trivial),by repeat (first|(with_reducible first|exact HB.out|apply below_alloc|apply pw_below_drewN|apply below_drew1|refine below_set ?_ GE272.out)|exact HB.out)⟩

/-! ### spec_AddrRead: function 8 -/
def spec_AddrRead.f (k:Nat) (a0:ByteArray):Option (ByteArray × List ByteArray × Bool × ByteArray × Bool):=(spec_l1Cut.f k a0 35).bind fun bt298=>(if (a0.size:Int) > 60 then (some ((⟨#[]⟩:ByteArray),([]:List ByteArray),false,(⟨#[]⟩:ByteArray),false)) else (if (bt298.1.size:Int) < 2 then (some ((⟨#[]⟩:ByteArray),([]:List ByteArray),false,(⟨#[]⟩:ByteArray),false)) else (if 0 ≤ 2 then (if 2 ≤ (bt298.1.size:Int) then (if (bt298.1.extract 0 2).toList = ([47,47]:List UInt8) then ((spec_l1Whole.f k (bt298.1.extract 2 bt298.1.size)).bind fun bt301=>(some (bt301.1,bt301.2.1,bt301.2.2.1,bt301.2.2.2.1,bt301.2.2.2.2))) else (some ((⟨#[]⟩:ByteArray),([]:List ByteArray),false,(⟨#[]⟩:ByteArray),false))) else (none)) else (none))))
theorem spec_AddrRead.mono:∀ a0 k,LeO (spec_AddrRead.f k a0) (spec_AddrRead.f (k + 1) a0):=by
 intro a0 k
 unfold spec_AddrRead.f
 repeat' first
   | (with_reducible exact spec_l1Cut.mono _ _ _)
   | (with_reducible exact spec_l1Whole.mono _ _)
   | (with_reducible exact LeO.refl _)
   | (with_reducible exact LeO.none _)
   | (with_reducible refine LeO.ite ?_ ?_)
   | (with_reducible refine LeO.bind ?_ (fun _=>?_))
   | exact spec_l1Cut.mono _ _ _
   | exact spec_l1Whole.mono _ _
   | exact LeO.none _
   | refine LeO.ite ?_ ?_
   | refine LeO.bind ?_ (fun _=>?_)
theorem spec_AddrRead.calls (k:Nat) (a0:ByteArray) (r1:ByteArray) (r2:List ByteArray) (r3:Bool) (r4:ByteArray) (r5:Bool) (w:World) (h:spec_AddrRead.f k a0 = some (r1,r2,r3,r4,r5)) :
  Calls Tryd.prog 8 #[.string a0] w fun e w'=>∃ v1_:Value,e = .returned (.tuple #[.agg #[.string r1,v1_, .bool r3, .string r4], .bool r5]) ∧ Kd.R Kd.string 9 w' w.heap.size (fun _=>True) v1_ r2 ∧ Below w.heap.size w w':=by
 have hu24:=Tryd.underlying24
 have HB:=Aside0.mk (Below.refl w.heap.size w)
 have H:((spec_l1Cut.f k a0 35).bind fun bt298=>(if (a0.size:Int) > 60 then (some ((⟨#[]⟩:ByteArray),([]:List ByteArray),false,(⟨#[]⟩:ByteArray),false)) else (if (bt298.1.size:Int) < 2 then (some ((⟨#[]⟩:ByteArray),([]:List ByteArray),false,(⟨#[]⟩:ByteArray),false)) else (if 0 ≤ 2 then (if 2 ≤ (bt298.1.size:Int) then (if (bt298.1.extract 0 2).toList = ([47,47]:List UInt8) then ((spec_l1Whole.f k (bt298.1.extract 2 bt298.1.size)).bind fun bt301=>(some (bt301.1,bt301.2.1,bt301.2.2.1,bt301.2.2.2.1,bt301.2.2.2.2))) else (some ((⟨#[]⟩:ByteArray),([]:List ByteArray),false,(⟨#[]⟩:ByteArray),false))) else (none)) else (none))))) = some (r1,r2,r3,r4,r5):=h
 clear h
 replace H:=Option.bind_eq_some_iff.mp H
 obtain ⟨⟨t298,t299,t300⟩,A20,H⟩:=H
 replace H:(if (a0.size:Int) > 60 then (some ((⟨#[]⟩:ByteArray),([]:List ByteArray),false,(⟨#[]⟩:ByteArray),false)) else (if (t298.size:Int) < 2 then (some ((⟨#[]⟩:ByteArray),([]:List ByteArray),false,(⟨#[]⟩:ByteArray),false)) else (if 0 ≤ 2 then (if 2 ≤ (t298.size:Int) then (if (t298.extract 0 2).toList = ([47,47]:List UInt8) then ((spec_l1Whole.f k (t298.extract 2 t298.size)).bind fun bt301=>(some (bt301.1,bt301.2.1,bt301.2.2.1,bt301.2.2.2.1,bt301.2.2.2.2))) else (some ((⟨#[]⟩:ByteArray),([]:List ByteArray),false,(⟨#[]⟩:ByteArray),false))) else (none)) else (none)))) = some (r1,r2,r3,r4,r5):=H
 have A2:=Aside0.mk A20
 clear A20
 by_cases c3:(a0.size:Int) > 60
 ·rw [if_pos c3] at H
  have c3b0:decide (60 < (a0.size:Int)) = true:=decide_eq_true c3
  have c3b1:decide (60 < a0.size) = true:=decide_eq_true (by omega)
  clear c3
  simp only [Option.some.injEq,Prod.mk.injEq] at H
  obtain ⟨rfl,rfl,rfl,rfl,rfl⟩:=H
  go_enter Tryd.func8,Tryd.ntmps8
  go_wp2_with (first|((with_reducible refine gate_dst (N:=2) rfl ?_);(try (refine gate_guard (by rfl) ?_;dsimp only));refine box_event ?hg (N:=2) ?hd (cs:=#[.string (⟨#[]⟩:ByteArray), .slice none 0 0, .bool false, .string (⟨#[]⟩:ByteArray)]) (t:=24) ?hr ?_;(case hd=>rfl);(case hg=>rfl);(case hr=>first|(go_simp;done)|(go_simp;rfl));intro gb297 hg w4 hbox hb;have n0_:=Aside0.mk (below_step (by repeat (first|(with_reducible first|exact HB.out|apply below_alloc|apply pw_below_drewN|apply below_drew1)|exact HB.out)) hb);have n1_:=Aside0.mk (hbox);have n2_:=Aside0.mk ((by rw [hg];exact (below_size (by repeat (first|(with_reducible first|exact HB.out|apply below_alloc|apply pw_below_drewN|apply below_drew1)|exact HB.out))):w.heap.size ≤ gb297));have n3_:=n2_;clear HB;have HB:=n0_;have BK297:=n1_;have GW297:=n2_;have GE297:=n3_;clear n0_ n1_ n2_ n3_;clear hb hbox hg)|((with_reducible refine gate_callee (f:=19) rfl ?_);refine goesL_ (some 9) rfl rfl Tryd.func19 (by kernel_rfl) rfl #[.string a0, .int .u8 35] rfl (by (try simp only [List.map_toArray,List.map_cons,List.map_nil]);first|done|rfl|(simp only [List.length_drop,List.length_take];rfl)) ?_;(with_reducible refine (spec_l1Cut.calls k a0 35 t298 t299 t300 _ A2.out).mono ?_);rintro e w' ⟨rfl,⟨nd,rfl⟩⟩;refine ⟨_,rfl,?_⟩;(try (rw [drewN_self w4];generalize hq_:World.drewN w4 _ = w4;have n0_:Aside0 (w4.heap[gb297]? = some (.cells #[.string (⟨#[]⟩:ByteArray), .slice none 0 0, .bool false, .string (⟨#[]⟩:ByteArray)] 24 (0,0))):=⟨by rw [← hq_];exact (by (with_reducible repeat (first|refine blk_drewN ?_ _|refine blk_drew ?_|refine blk_alloc ?_ _));exact BK297.out)⟩;have n1_:Aside0 (Below w.heap.size w w4):=⟨by rw [← hq_];exact (by repeat (first|(with_reducible first|exact HB.out|apply below_alloc|apply pw_below_drewN|apply below_drew1|refine below_set ?_ GE297.out)|exact HB.out))⟩;clear BK297 HB hq_;have BK297:=n0_;have HB:=n1_;clear n0_ n1_));have hcz5_0:w4.cell? ⟨gb297,0,none⟩ = some (.string (⟨#[]⟩:ByteArray)):=(blk_cell BK297.out 0).trans rfl;have hcz5_1:w4.cell? ⟨gb297,1,none⟩ = some (.slice none 0 0):=(blk_cell BK297.out 1).trans rfl;have hcz5_2:w4.cell? ⟨gb297,2,none⟩ = some (.bool false):=(blk_cell BK297.out 2).trans rfl;have hcz5_3:w4.cell? ⟨gb297,3,none⟩ = some (.string (⟨#[]⟩:ByteArray)):=(blk_cell BK297.out 3).trans rfl;have hfz5_0:=blk_frozen BK297.out 0;have hfz5_1:=blk_frozen BK297.out 1;have hfz5_2:=blk_frozen BK297.out 2;have hfz5_3:=blk_frozen BK297.out 3))
  refine bodyPost_ret (results_ct rfl _ _ gb297 24 #[.string (⟨#[]⟩:ByteArray), .slice none 0 0, .bool false, .string (⟨#[]⟩:ByteArray)] (0,0) _ rfl (by (with_reducible repeat (first|refine blk_drewN ?_ _|refine blk_drew ?_|refine blk_alloc ?_ _));refine blk_put (cs:=#[.string (⟨#[]⟩:ByteArray), .slice none 0 0, .bool false, .string (⟨#[]⟩:ByteArray)]) ?_ 3 _ rfl;(with_reducible repeat (first|refine blk_drewN ?_ _|refine blk_drew ?_|refine blk_alloc ?_ _));refine blk_put (cs:=#[.string (⟨#[]⟩:ByteArray), .slice none 0 0, .bool false, .string (⟨#[]⟩:ByteArray)]) ?_ 2 _ rfl;(with_reducible repeat (first|refine blk_drewN ?_ _|refine blk_drew ?_|refine blk_alloc ?_ _));refine blk_put (cs:=#[.string (⟨#[]⟩:ByteArray), .slice none 0 0, .bool false, .string (⟨#[]⟩:ByteArray)]) ?_ 1 _ rfl;(with_reducible repeat (first|refine blk_drewN ?_ _|refine blk_drew ?_|refine blk_alloc ?_ _));refine blk_put (cs:=#[.string (⟨#[]⟩:ByteArray), .slice none 0 0, .bool false, .string (⟨#[]⟩:ByteArray)]) ?_ 0 _ rfl;(with_reducible repeat (first|refine blk_drewN ?_ _|refine blk_drew ?_|refine blk_alloc ?_ _));exact BK297.out) Tryd.underlying24 rfl (by kernel_rfl)) rfl ?_
  exact ⟨_,by first|rfl|(simp <;> rfl)|(simp [*] <;> rfl),by first|exact Kd.R_nil _ _ _ _ _|exact Kd.N_nil _ _ _ _ _|exact Kd.V_nil _ _ _ _ _|exact Kd.Q_nil _ _ _ _ _|exact Kd.S_nil _ _ _ _ _,by repeat (first|(with_reducible first|exact HB.out|apply below_alloc|apply pw_below_drewN|apply below_drew1|refine below_set ?_ GE297.out)|exact HB.out)⟩
 ·rw [if_neg c3] at H
  have c3b0:decide (60 < (a0.size:Int)) = false:=decide_eq_false c3
  have c3b1:decide (60 < a0.size) = false:=decide_eq_false (by omega)
  clear c3
  by_cases c6:(t298.size:Int) < 2
  ·rw [if_pos c6] at H
   have c6b0:decide ((t298.size:Int) < 2) = true:=decide_eq_true c6
   have c6b1:decide (t298.size < 2) = true:=decide_eq_true (by omega)
   clear c6
   simp only [Option.some.injEq,Prod.mk.injEq] at H
   obtain ⟨rfl,rfl,rfl,rfl,rfl⟩:=H
   go_enter Tryd.func8,Tryd.ntmps8
   go_wp2_with (first|((with_reducible refine gate_dst (N:=2) rfl ?_);(try (refine gate_guard (by rfl) ?_;dsimp only));refine box_event ?hg (N:=2) ?hd (cs:=#[.string (⟨#[]⟩:ByteArray), .slice none 0 0, .bool false, .string (⟨#[]⟩:ByteArray)]) (t:=24) ?hr ?_;(case hd=>rfl);(case hg=>rfl);(case hr=>first|(go_simp;done)|(go_simp;rfl));intro gb297 hg w7 hbox hb;have n0_:=Aside0.mk (below_step (by repeat (first|(with_reducible first|exact HB.out|apply below_alloc|apply pw_below_drewN|apply below_drew1)|exact HB.out)) hb);have n1_:=Aside0.mk (hbox);have n2_:=Aside0.mk ((by rw [hg];exact (below_size (by repeat (first|(with_reducible first|exact HB.out|apply below_alloc|apply pw_below_drewN|apply below_drew1)|exact HB.out))):w.heap.size ≤ gb297));have n3_:=n2_;clear HB;have HB:=n0_;have BK297:=n1_;have GW297:=n2_;have GE297:=n3_;clear n0_ n1_ n2_ n3_;clear hb hbox hg)|((with_reducible refine gate_callee (f:=19) rfl ?_);refine goesL_ (some 9) rfl rfl Tryd.func19 (by kernel_rfl) rfl #[.string a0, .int .u8 35] rfl (by (try simp only [List.map_toArray,List.map_cons,List.map_nil]);first|done|rfl|(simp only [List.length_drop,List.length_take];rfl)) ?_;(with_reducible refine (spec_l1Cut.calls k a0 35 t298 t299 t300 _ A2.out).mono ?_);rintro e w' ⟨rfl,⟨nd,rfl⟩⟩;refine ⟨_,rfl,?_⟩;(try (rw [drewN_self w7];generalize hq_:World.drewN w7 _ = w7;have n0_:Aside0 (w7.heap[gb297]? = some (.cells #[.string (⟨#[]⟩:ByteArray), .slice none 0 0, .bool false, .string (⟨#[]⟩:ByteArray)] 24 (0,0))):=⟨by rw [← hq_];exact (by (with_reducible repeat (first|refine blk_drewN ?_ _|refine blk_drew ?_|refine blk_alloc ?_ _));exact BK297.out)⟩;have n1_:Aside0 (Below w.heap.size w w7):=⟨by rw [← hq_];exact (by repeat (first|(with_reducible first|exact HB.out|apply below_alloc|apply pw_below_drewN|apply below_drew1|refine below_set ?_ GE297.out)|exact HB.out))⟩;clear BK297 HB hq_;have BK297:=n0_;have HB:=n1_;clear n0_ n1_));have hcz8_0:w7.cell? ⟨gb297,0,none⟩ = some (.string (⟨#[]⟩:ByteArray)):=(blk_cell BK297.out 0).trans rfl;have hcz8_1:w7.cell? ⟨gb297,1,none⟩ = some (.slice none 0 0):=(blk_cell BK297.out 1).trans rfl;have hcz8_2:w7.cell? ⟨gb297,2,none⟩ = some (.bool false):=(blk_cell BK297.out 2).trans rfl;have hcz8_3:w7.cell? ⟨gb297,3,none⟩ = some (.string (⟨#[]⟩:ByteArray)):=(blk_cell BK297.out 3).trans rfl;have hfz8_0:=blk_frozen BK297.out 0;have hfz8_1:=blk_frozen BK297.out 1;have hfz8_2:=blk_frozen BK297.out 2;have hfz8_3:=blk_frozen BK297.out 3))
   refine bodyPost_ret (results_ct rfl _ _ gb297 24 #[.string (⟨#[]⟩:ByteArray), .slice none 0 0, .bool false, .string (⟨#[]⟩:ByteArray)] (0,0) _ rfl (by (with_reducible repeat (first|refine blk_drewN ?_ _|refine blk_drew ?_|refine blk_alloc ?_ _));refine blk_put (cs:=#[.string (⟨#[]⟩:ByteArray), .slice none 0 0, .bool false, .string (⟨#[]⟩:ByteArray)]) ?_ 3 _ rfl;(with_reducible repeat (first|refine blk_drewN ?_ _|refine blk_drew ?_|refine blk_alloc ?_ _));refine blk_put (cs:=#[.string (⟨#[]⟩:ByteArray), .slice none 0 0, .bool false, .string (⟨#[]⟩:ByteArray)]) ?_ 2 _ rfl;(with_reducible repeat (first|refine blk_drewN ?_ _|refine blk_drew ?_|refine blk_alloc ?_ _));refine blk_put (cs:=#[.string (⟨#[]⟩:ByteArray), .slice none 0 0, .bool false, .string (⟨#[]⟩:ByteArray)]) ?_ 1 _ rfl;(with_reducible repeat (first|refine blk_drewN ?_ _|refine blk_drew ?_|refine blk_alloc ?_ _));refine blk_put (cs:=#[.string (⟨#[]⟩:ByteArray), .slice none 0 0, .bool false, .string (⟨#[]⟩:ByteArray)]) ?_ 0 _ rfl;(with_reducible repeat (first|refine blk_drewN ?_ _|refine blk_drew ?_|refine blk_alloc ?_ _));exact BK297.out) Tryd.underlying24 rfl (by kernel_rfl)) rfl ?_
   exact ⟨_,by first|rfl|(simp <;> rfl)|(simp [*] <;> rfl),by first|exact Kd.R_nil _ _ _ _ _|exact Kd.N_nil _ _ _ _ _|exact Kd.V_nil _ _ _ _ _|exact Kd.Q_nil _ _ _ _ _|exact Kd.S_nil _ _ _ _ _,by repeat (first|(with_reducible first|exact HB.out|apply below_alloc|apply pw_below_drewN|apply below_drew1|refine below_set ?_ GE297.out)|exact HB.out)⟩
  ·rw [if_neg c6] at H
   have c6b0:decide ((t298.size:Int) < 2) = false:=decide_eq_false c6
   have c6b1:decide (t298.size < 2) = false:=decide_eq_false (by omega)
   clear c6
   by_cases c9:0 ≤ 2
   ·rw [if_pos c9] at H
    have c9b0:=eq_true c9
    have c9b1:=decide_eq_true c9
    clear c9
    by_cases c10:2 ≤ (t298.size:Int)
    ·rw [if_pos c10] at H
     have c10b0:=eq_true c10
     have c10b1:=decide_eq_true c10
     clear c10
     by_cases c11:(t298.extract 0 2).toList = ([47,47]:List UInt8)
     ·rw [if_pos c11] at H
      have c11b0:((t298.extract 0 2).toList == ([47,47]:List UInt8)) = true:=beq_iff_eq.mpr c11
      have c11b1:((t298.extract 0 2).toList != ([47,47]:List UInt8)) = false:=bne_eq_false_iff_eq.mpr c11
      clear c11
      have c12b0:=eq_true (of_decide_eq_true (by first|(with_reducible assumption)|assumption):2 ≤ (t298.size:Int))
      replace H:=Option.bind_eq_some_iff.mp H
      obtain ⟨⟨t301,t302,t305,t306,t307⟩,A130,H⟩:=H
      replace H:(some (t301,t302,t305,t306,t307)) = some (r1,r2,r3,r4,r5):=H
      have A13:=Aside0.mk A130
      clear A130
      simp only [Option.some.injEq,Prod.mk.injEq] at H
      obtain ⟨rfl,rfl,rfl,rfl,rfl⟩:=H
      go_enter Tryd.func8,Tryd.ntmps8
      go_wp2_with (first|((with_reducible refine gate_dst (N:=2) rfl ?_);(try (refine gate_guard (by rfl) ?_;dsimp only));refine box_event ?hg (N:=2) ?hd (cs:=#[.string (⟨#[]⟩:ByteArray), .slice none 0 0, .bool false, .string (⟨#[]⟩:ByteArray)]) (t:=24) ?hr ?_;(case hd=>rfl);(case hg=>rfl);(case hr=>first|(go_simp;done)|(go_simp;rfl));intro gb297 hg w14 hbox hb;have n0_:=Aside0.mk (below_step (by repeat (first|(with_reducible first|exact HB.out|apply below_alloc|apply pw_below_drewN|apply below_drew1)|exact HB.out)) hb);have n1_:=Aside0.mk (hbox);have n2_:=Aside0.mk ((by rw [hg];exact (below_size (by repeat (first|(with_reducible first|exact HB.out|apply below_alloc|apply pw_below_drewN|apply below_drew1)|exact HB.out))):w.heap.size ≤ gb297));have n3_:=n2_;clear HB;have HB:=n0_;have BK297:=n1_;have GW297:=n2_;have GE297:=n3_;clear n0_ n1_ n2_ n3_;clear hb hbox hg)|((with_reducible refine gate_callee (f:=19) rfl ?_);refine goesL_ (some 9) rfl rfl Tryd.func19 (by kernel_rfl) rfl #[.string a0, .int .u8 35] rfl (by (try simp only [List.map_toArray,List.map_cons,List.map_nil]);first|done|rfl|(simp only [List.length_drop,List.length_take];rfl)) ?_;(with_reducible refine (spec_l1Cut.calls k a0 35 t298 t299 t300 _ A2.out).mono ?_);rintro e w' ⟨rfl,⟨nd,rfl⟩⟩;refine ⟨_,rfl,?_⟩;(try (rw [drewN_self w14];generalize hq_:World.drewN w14 _ = w14;have n0_:Aside0 (w14.heap[gb297]? = some (.cells #[.string (⟨#[]⟩:ByteArray), .slice none 0 0, .bool false, .string (⟨#[]⟩:ByteArray)] 24 (0,0))):=⟨by rw [← hq_];exact (by (with_reducible repeat (first|refine blk_drewN ?_ _|refine blk_drew ?_|refine blk_alloc ?_ _));exact BK297.out)⟩;have n1_:Aside0 (Below w.heap.size w w14):=⟨by rw [← hq_];exact (by repeat (first|(with_reducible first|exact HB.out|apply below_alloc|apply pw_below_drewN|apply below_drew1|refine below_set ?_ GE297.out)|exact HB.out))⟩;clear BK297 HB hq_;have BK297:=n0_;have HB:=n1_;clear n0_ n1_)))|((with_reducible refine gate_callee (f:=20) rfl ?_);refine goesL_ (some 29) rfl rfl Tryd.func20 (by kernel_rfl) rfl #[.string (t298.extract 2 t298.size)] rfl (by (try simp only [List.map_toArray,List.map_cons,List.map_nil]);first|done|rfl|(simp only [List.length_drop,List.length_take];rfl)) ?_;(with_reducible refine (spec_l1Whole.calls k (t298.extract 2 t298.size) t301 t302 t305 t306 t307 _ A13.out).mono ?_);rintro e w15 ⟨v303,rfl,ho0,hb⟩;refine ⟨_,rfl,?_⟩;have n0_:=Aside0.mk (Kd.R_lower ho0 (below_size (by repeat (first|(with_reducible first|exact HB.out|apply below_alloc|apply pw_below_drewN|apply below_drew1|refine below_set ?_ GE297.out)|exact HB.out))));have n1_:=Aside0.mk (blk_below (g:=gb297) (o:=.cells #[.string (⟨#[]⟩:ByteArray), .slice none 0 0, .bool false, .string (⟨#[]⟩:ByteArray)] 24 (0,0)) (by (with_reducible repeat (first|refine blk_drewN ?_ _|refine blk_drew ?_|refine blk_alloc ?_ _));exact BK297.out) hb);have n2_:=Aside0.mk (below_step (by repeat (first|(with_reducible first|exact HB.out|apply below_alloc|apply pw_below_drewN|apply below_drew1|refine below_set ?_ GE297.out)|exact HB.out)) hb);clear BK297;clear HB;have HO304:=n0_;have BK297:=n1_;have HB:=n2_;clear n0_ n1_ n2_;(try clear hb);(try clear hb2);(try clear hk);(try clear hi);(try clear ho0);have hcz16_0:w15.cell? ⟨gb297,0,none⟩ = some (.string (⟨#[]⟩:ByteArray)):=(blk_cell BK297.out 0).trans rfl;have hcz16_1:w15.cell? ⟨gb297,1,none⟩ = some (.slice none 0 0):=(blk_cell BK297.out 1).trans rfl;have hcz16_2:w15.cell? ⟨gb297,2,none⟩ = some (.bool false):=(blk_cell BK297.out 2).trans rfl;have hcz16_3:w15.cell? ⟨gb297,3,none⟩ = some (.string (⟨#[]⟩:ByteArray)):=(blk_cell BK297.out 3).trans rfl;have hfz16_0:=blk_frozen BK297.out 0;have hfz16_1:=blk_frozen BK297.out 1;have hfz16_2:=blk_frozen BK297.out 2;have hfz16_3:=blk_frozen BK297.out 3;obtain ⟨Ao17,co17,eo17⟩:=Kd.R_slice HO304.out;subst eo17))
      refine bodyPost_ret (results_ct rfl _ _ gb297 24 #[.string t301, .slice Ao17 t302.length co17, .bool t305, .string t306] (0,0) _ rfl (by (with_reducible repeat (first|refine blk_drewN ?_ _|refine blk_drew ?_|refine blk_alloc ?_ _));refine blk_put (cs:=#[.string t301, .slice Ao17 t302.length co17, .bool t305, .string (⟨#[]⟩:ByteArray)]) ?_ 3 _ rfl;(with_reducible repeat (first|refine blk_drewN ?_ _|refine blk_drew ?_|refine blk_alloc ?_ _));refine blk_put (cs:=#[.string t301, .slice Ao17 t302.length co17, .bool false, .string (⟨#[]⟩:ByteArray)]) ?_ 2 _ rfl;(with_reducible repeat (first|refine blk_drewN ?_ _|refine blk_drew ?_|refine blk_alloc ?_ _));refine blk_put (cs:=#[.string t301, .slice none 0 0, .bool false, .string (⟨#[]⟩:ByteArray)]) ?_ 1 _ rfl;(with_reducible repeat (first|refine blk_drewN ?_ _|refine blk_drew ?_|refine blk_alloc ?_ _));refine blk_put (cs:=#[.string (⟨#[]⟩:ByteArray), .slice none 0 0, .bool false, .string (⟨#[]⟩:ByteArray)]) ?_ 0 _ rfl;(with_reducible repeat (first|refine blk_drewN ?_ _|refine blk_drew ?_|refine blk_alloc ?_ _));exact BK297.out) Tryd.underlying24 rfl (by kernel_rfl)) rfl ?_
      exact ⟨_,by first|rfl|(simp <;> rfl)|(simp [*] <;> rfl),by (with_reducible repeat (first|apply Kd.R_alloc|apply Kd.R_drewN|apply Kd.R_drew));exact Kd.R_mono (Kd.R_far (p:=⟨gb297,3,none⟩) (Kd.R_far (p:=⟨gb297,2,none⟩) (Kd.R_far (p:=⟨gb297,1,none⟩) (Kd.R_far (p:=⟨gb297,0,none⟩) (Kd.R_types HO304.out BK297.out (by decide)) (fun _ hk=>hk.2) (.string t301)) (fun _ hk=>hk.2) (.slice Ao17 t302.length co17)) (fun _ hk=>hk.2) (.bool t305)) (fun _ hk=>hk.2) (.string t306)) (fun _ hk=>trivial),by repeat (first|(with_reducible first|exact HB.out|apply below_alloc|apply pw_below_drewN|apply below_drew1|refine below_set ?_ GE297.out)|exact HB.out)⟩
     ·rw [if_neg c11] at H
      have c11b0:((t298.extract 0 2).toList == ([47,47]:List UInt8)) = false:=beq_eq_false_iff_ne.mpr c11
      have c11b1:((t298.extract 0 2).toList != ([47,47]:List UInt8)) = true:=bne_iff_ne.mpr c11
      simp only [Option.some.injEq,Prod.mk.injEq] at H
      obtain ⟨rfl,rfl,rfl,rfl,rfl⟩:=H
      go_enter Tryd.func8,Tryd.ntmps8
      go_wp2_with (first|((with_reducible refine gate_dst (N:=2) rfl ?_);(try (refine gate_guard (by rfl) ?_;dsimp only));refine box_event ?hg (N:=2) ?hd (cs:=#[.string (⟨#[]⟩:ByteArray), .slice none 0 0, .bool false, .string (⟨#[]⟩:ByteArray)]) (t:=24) ?hr ?_;(case hd=>rfl);(case hg=>rfl);(case hr=>first|(go_simp;done)|(go_simp;rfl));intro gb297 hg w18 hbox hb;have n0_:=Aside0.mk (below_step (by repeat (first|(with_reducible first|exact HB.out|apply below_alloc|apply pw_below_drewN|apply below_drew1)|exact HB.out)) hb);have n1_:=Aside0.mk (hbox);have n2_:=Aside0.mk ((by rw [hg];exact (below_size (by repeat (first|(with_reducible first|exact HB.out|apply below_alloc|apply pw_below_drewN|apply below_drew1)|exact HB.out))):w.heap.size ≤ gb297));have n3_:=n2_;clear HB;have HB:=n0_;have BK297:=n1_;have GW297:=n2_;have GE297:=n3_;clear n0_ n1_ n2_ n3_;clear hb hbox hg)|((with_reducible refine gate_callee (f:=19) rfl ?_);refine goesL_ (some 9) rfl rfl Tryd.func19 (by kernel_rfl) rfl #[.string a0, .int .u8 35] rfl (by (try simp only [List.map_toArray,List.map_cons,List.map_nil]);first|done|rfl|(simp only [List.length_drop,List.length_take];rfl)) ?_;(with_reducible refine (spec_l1Cut.calls k a0 35 t298 t299 t300 _ A2.out).mono ?_);rintro e w' ⟨rfl,⟨nd,rfl⟩⟩;refine ⟨_,rfl,?_⟩;(try (rw [drewN_self w18];generalize hq_:World.drewN w18 _ = w18;have n0_:Aside0 (w18.heap[gb297]? = some (.cells #[.string (⟨#[]⟩:ByteArray), .slice none 0 0, .bool false, .string (⟨#[]⟩:ByteArray)] 24 (0,0))):=⟨by rw [← hq_];exact (by (with_reducible repeat (first|refine blk_drewN ?_ _|refine blk_drew ?_|refine blk_alloc ?_ _));exact BK297.out)⟩;have n1_:Aside0 (Below w.heap.size w w18):=⟨by rw [← hq_];exact (by repeat (first|(with_reducible first|exact HB.out|apply below_alloc|apply pw_below_drewN|apply below_drew1|refine below_set ?_ GE297.out)|exact HB.out))⟩;clear BK297 HB hq_;have BK297:=n0_;have HB:=n1_;clear n0_ n1_));have hcz19_0:w18.cell? ⟨gb297,0,none⟩ = some (.string (⟨#[]⟩:ByteArray)):=(blk_cell BK297.out 0).trans rfl;have hcz19_1:w18.cell? ⟨gb297,1,none⟩ = some (.slice none 0 0):=(blk_cell BK297.out 1).trans rfl;have hcz19_2:w18.cell? ⟨gb297,2,none⟩ = some (.bool false):=(blk_cell BK297.out 2).trans rfl;have hcz19_3:w18.cell? ⟨gb297,3,none⟩ = some (.string (⟨#[]⟩:ByteArray)):=(blk_cell BK297.out 3).trans rfl;have hfz19_0:=blk_frozen BK297.out 0;have hfz19_1:=blk_frozen BK297.out 1;have hfz19_2:=blk_frozen BK297.out 2;have hfz19_3:=blk_frozen BK297.out 3))
      refine bodyPost_ret (results_ct rfl _ _ gb297 24 #[.string (⟨#[]⟩:ByteArray), .slice none 0 0, .bool false, .string (⟨#[]⟩:ByteArray)] (0,0) _ rfl (by (with_reducible repeat (first|refine blk_drewN ?_ _|refine blk_drew ?_|refine blk_alloc ?_ _));refine blk_put (cs:=#[.string (⟨#[]⟩:ByteArray), .slice none 0 0, .bool false, .string (⟨#[]⟩:ByteArray)]) ?_ 3 _ rfl;(with_reducible repeat (first|refine blk_drewN ?_ _|refine blk_drew ?_|refine blk_alloc ?_ _));refine blk_put (cs:=#[.string (⟨#[]⟩:ByteArray), .slice none 0 0, .bool false, .string (⟨#[]⟩:ByteArray)]) ?_ 2 _ rfl;(with_reducible repeat (first|refine blk_drewN ?_ _|refine blk_drew ?_|refine blk_alloc ?_ _));refine blk_put (cs:=#[.string (⟨#[]⟩:ByteArray), .slice none 0 0, .bool false, .string (⟨#[]⟩:ByteArray)]) ?_ 1 _ rfl;(with_reducible repeat (first|refine blk_drewN ?_ _|refine blk_drew ?_|refine blk_alloc ?_ _));refine blk_put (cs:=#[.string (⟨#[]⟩:ByteArray), .slice none 0 0, .bool false, .string (⟨#[]⟩:ByteArray)]) ?_ 0 _ rfl;(with_reducible repeat (first|refine blk_drewN ?_ _|refine blk_drew ?_|refine blk_alloc ?_ _));exact BK297.out) Tryd.underlying24 rfl (by kernel_rfl)) rfl ?_
      exact ⟨_,by first|rfl|(simp <;> rfl)|(simp [*] <;> rfl),by first|exact Kd.R_nil _ _ _ _ _|exact Kd.N_nil _ _ _ _ _|exact Kd.V_nil _ _ _ _ _|exact Kd.Q_nil _ _ _ _ _|exact Kd.S_nil _ _ _ _ _,by repeat (first|(with_reducible first|exact HB.out|apply below_alloc|apply pw_below_drewN|apply below_drew1|refine below_set ?_ GE297.out)|exact HB.out)⟩
    ·rw [if_neg c10] at H
     exact absurd H (by simp)
   ·rw [if_neg c9] at H
    exact absurd H (by simp)

/-! ### stringslite_Index: function 56 -/
/-- Where a text of one byte stands first; -1, if it does not. (Of longer ones nothing is told.) -/
def stringslite_Index.f (a0 a1:ByteArray):Option Int:=if a1.size = 1 then some (Go.Lib.indexByte a0.data.toList (a1.data.toList.headD 0)) else none
set_option maxHeartbeats 1000000 in
set_option maxRecDepth 100000 in
theorem stringslite_Index.byte (a0:ByteArray) (a1:Int) (w:World) :
  Calls Tryd.prog 73 #[.string a0, .int .u8 a1] w fun e w'=>e = .returned (.int .i64 (Go.Lib.indexByte a0.data.toList a1.toNat.toUInt8)) ∧ ∃ nd,w' = w.drewN nd:=by
 go_enter Tryd.func73,Tryd.ntmps73
 go_wp2
 rw [run_callFunc_extern Tryd.func85 (by kernel_rfl) (by kernel_rfl) (by kernel_rfl) (e:=Extern.BytealgIndexByte.indexByte) (by kernel_rfl),Go.Lib.run_indexByteString]
 simp only [Result.andThen]
 rw [Oper.upon_value]
 go_wp2
 go_ret
 exact ⟨rfl,0,rfl⟩
set_option maxHeartbeats 1000000 in
set_option maxRecDepth 100000 in
theorem stringslite_Index.calls (a0 a1:ByteArray) (r:Int) (w:World) (h:stringslite_Index.f a0 a1 = some r) :
  Calls Tryd.prog 56 #[.string a0, .string a1] w fun e w'=>e = .returned (.int .i64 r) ∧ ∃ nd,w' = w.drewN nd:=by
 unfold stringslite_Index.f at h
 split at h
 rotate_left
 ·cases h
 rename_i hs
 obtain rfl:=Option.some.inj h
 clear h
 have HH:=Aside0.mk (show ∀ h:0 < a1.size,(a1[0]'h) = a1.data.toList.headD 0 by
  obtain ⟨c,rfl⟩:=Go.Lib.one_byte a1 hs
  intro _;rfl)
 have HZ:=Aside0.mk (show a1.toList = a0.toList → Go.Lib.indexByte a0.data.toList (a1.data.toList.headD 0) = 0 by
  intro e
  obtain ⟨c,rfl⟩:=Go.Lib.one_byte a1 hs
  rw [Go.ByteArray.toList_eq,Go.ByteArray.toList_eq] at e
  rw [← e]
  simp [Go.Lib.indexByte])
 have h0:(((a1.size:Nat):Int) == 0) = false:=by rw [hs];rfl
 have h1:(((a1.size:Nat):Int) == 1) = true:=by rw [hs];rfl
 have hlt:0 < a1.size:=by omega
 generalize hx:a1.data.toList.headD 0 = x at HH HZ ⊢
 clear hs hx
 by_cases e:a1.toList = a0.toList
 ·have hb:(a1.toList == a0.toList) = true:=beq_iff_eq.mpr e
  have HR:=Aside0.mk (HZ.out e)
  clear e HZ HH
  go_enter Tryd.func56,Tryd.ntmps56
  go_wp2
  go_ret
  exact ⟨congrArg (fun n=>Ending.returned (Value.int IntKind.i64 n)) HR.out.symm,0,rfl⟩
 ·have hb:(a1.toList == a0.toList) = false:=beq_eq_false_iff_ne.mpr e
  clear e HZ
  go_enter Tryd.func56,Tryd.ntmps56
  go_wp2_with (go_at_call 73;refine (stringslite_Index.byte _ _ _).mono ?_;rintro e w' ⟨rfl,nd,rfl⟩)
  go_ret
  exact ⟨by rw [← HH.out hlt];simp,_,rfl⟩

/-! ### stringslite_Cut: function 40 -/
def stringslite_Cut.f (a0:ByteArray) (a1:ByteArray):Option (ByteArray × ByteArray × Bool):=(stringslite_Index.f a0 a1).bind fun t308=>(if t308 ≥ 0 then (if 0 ≤ t308 then (if t308 ≤ (a0.size:Int) then (if 0 ≤ (wrap64 (t308 + (a1.size:Int))) then (if (wrap64 (t308 + (a1.size:Int))) ≤ (a0.size:Int) then (some (a0.extract 0 (t308:Int).toNat,a0.extract ((wrap64 (t308 + (a1.size:Int))):Int).toNat a0.size,true)) else (none)) else (none)) else (none)) else (none)) else (some (a0,(⟨#[]⟩:ByteArray),false)))
theorem stringslite_Cut.calls (a0:ByteArray) (a1:ByteArray) (r1:ByteArray) (r2:ByteArray) (r3:Bool) (w:World) (h:stringslite_Cut.f a0 a1 = some (r1,r2,r3)) :
  Calls Tryd.prog 40 #[.string a0, .string a1] w fun e w'=>e = .returned (.tuple #[.string r1, .string r2, .bool r3]) ∧ Drawn0 w w':=by
 have H:((stringslite_Index.f a0 a1).bind fun t308=>(if t308 ≥ 0 then (if 0 ≤ t308 then (if t308 ≤ (a0.size:Int) then (if 0 ≤ (wrap64 (t308 + (a1.size:Int))) then (if (wrap64 (t308 + (a1.size:Int))) ≤ (a0.size:Int) then (some (a0.extract 0 (t308:Int).toNat,a0.extract ((wrap64 (t308 + (a1.size:Int))):Int).toNat a0.size,true)) else (none)) else (none)) else (none)) else (none)) else (some (a0,(⟨#[]⟩:ByteArray),false)))) = some (r1,r2,r3):=h
 clear h
 replace H:=Option.bind_eq_some_iff.mp H
 obtain ⟨t308,A30,H⟩:=H
 replace H:(if t308 ≥ 0 then (if 0 ≤ t308 then (if t308 ≤ (a0.size:Int) then (if 0 ≤ (wrap64 (t308 + (a1.size:Int))) then (if (wrap64 (t308 + (a1.size:Int))) ≤ (a0.size:Int) then (some (a0.extract 0 (t308:Int).toNat,a0.extract ((wrap64 (t308 + (a1.size:Int))):Int).toNat a0.size,true)) else (none)) else (none)) else (none)) else (none)) else (some (a0,(⟨#[]⟩:ByteArray),false))) = some (r1,r2,r3):=H
 have A3:=Aside0.mk A30
 clear A30
 by_cases c4:t308 ≥ 0
 ·rw [if_pos c4] at H
  have c4b0:decide (0 ≤ t308) = true:=decide_eq_true c4
  clear c4
  by_cases c5:0 ≤ t308
  ·rw [if_pos c5] at H
   have c5b0:=eq_true c5
   have c5b1:=decide_eq_true c5
   clear c5
   by_cases c6:t308 ≤ (a0.size:Int)
   ·rw [if_pos c6] at H
    have c6b0:=eq_true c6
    have c6b1:=decide_eq_true c6
    clear c6
    obtain ⟨ji7,hji7⟩:∃ j_:Int,(wrap64 (t308 + (a1.size:Int))) = j_:=⟨_,rfl⟩
    replace H:(if 0 ≤ (ji7) then (if (ji7) ≤ (a0.size:Int) then (some (a0.extract 0 (t308:Int).toNat,a0.extract ((ji7):Int).toNat a0.size,true)) else (none)) else (none)) = some (r1,r2,r3):=by first|(rw [hji7] at H;exact H)|(simp only [hji7] at H ⊢;exact H)
    (try rw [hji7] at A3)
    have hji7w:(IntKind.i64.wrap (t308 + (a1.size:Int))) = ji7:=(i64_w _).trans hji7
    by_cases c8:0 ≤ (ji7)
    ·rw [if_pos c8] at H
     have c8b0:=eq_true c8
     have c8b1:=decide_eq_true c8
     clear c8
     by_cases c9:(ji7) ≤ (a0.size:Int)
     ·rw [if_pos c9] at H
      have c9b0:=eq_true c9
      have c9b1:=decide_eq_true c9
      clear c9
      simp only [Option.some.injEq,Prod.mk.injEq] at H
      obtain ⟨rfl,rfl,rfl⟩:=H
      go_enter Tryd.func40,Tryd.ntmps40
      go_wp2_with (first|(go_at_call 56;(with_reducible refine (stringslite_Index.calls a0 a1 t308 _ A3.out).mono ?_);rintro e w' ⟨rfl,⟨nd,rfl⟩⟩;(try first|exact ⟨rfl,_,World.drewN_drewN _ _ _⟩|exact ⟨rfl,_,Eq.trans (World.drewN_drewN _ _ _) (congrArg (World.drewN _) (Nat.add_assoc _ _ _))⟩)))
      repeat (go_quiet (first|(go_at_call 56;(with_reducible refine (stringslite_Index.calls a0 a1 t308 _ A3.out).mono ?_);rintro e w' ⟨rfl,⟨nd,rfl⟩⟩;(try first|exact ⟨rfl,_,World.drewN_drewN _ _ _⟩|exact ⟨rfl,_,Eq.trans (World.drewN_drewN _ _ _) (congrArg (World.drewN _) (Nat.add_assoc _ _ _))⟩)));try go_wp2_with (first|(go_at_call 56;(with_reducible refine (stringslite_Index.calls a0 a1 t308 _ A3.out).mono ?_);rintro e w' ⟨rfl,⟨nd,rfl⟩⟩;(try first|exact ⟨rfl,_,World.drewN_drewN _ _ _⟩|exact ⟨rfl,_,Eq.trans (World.drewN_drewN _ _ _) (congrArg (World.drewN _) (Nat.add_assoc _ _ _))⟩))))
      go_ret3
      exact ⟨by first|rfl|(simp only [i64_w,i32_w];done)|(simp only [i64_w,i32_w];rfl)|(simp;done)|(simp only [← hji7] <;> (first|rfl|simp))|(simp [*];done),by repeat (first|exact Drawn0.refl _|apply Drawn0.step)⟩
     ·rw [if_neg c9] at H
      exact absurd H (by simp)
    ·rw [if_neg c8] at H
     exact absurd H (by simp)
   ·rw [if_neg c6] at H
    exact absurd H (by simp)
  ·rw [if_neg c5] at H
   exact absurd H (by simp)
 ·rw [if_neg c4] at H
  have c4b0:decide (0 ≤ t308) = false:=decide_eq_false c4
  clear c4
  simp only [Option.some.injEq,Prod.mk.injEq] at H
  obtain ⟨rfl,rfl,rfl⟩:=H
  go_enter Tryd.func40,Tryd.ntmps40
  go_wp2_with (first|(go_at_call 56;(with_reducible refine (stringslite_Index.calls a0 a1 t308 _ A3.out).mono ?_);rintro e w' ⟨rfl,⟨nd,rfl⟩⟩;(try first|exact ⟨rfl,_,World.drewN_drewN _ _ _⟩|exact ⟨rfl,_,Eq.trans (World.drewN_drewN _ _ _) (congrArg (World.drewN _) (Nat.add_assoc _ _ _))⟩)))
  repeat (go_quiet (first|(go_at_call 56;(with_reducible refine (stringslite_Index.calls a0 a1 t308 _ A3.out).mono ?_);rintro e w' ⟨rfl,⟨nd,rfl⟩⟩;(try first|exact ⟨rfl,_,World.drewN_drewN _ _ _⟩|exact ⟨rfl,_,Eq.trans (World.drewN_drewN _ _ _) (congrArg (World.drewN _) (Nat.add_assoc _ _ _))⟩)));try go_wp2_with (first|(go_at_call 56;(with_reducible refine (stringslite_Index.calls a0 a1 t308 _ A3.out).mono ?_);rintro e w' ⟨rfl,⟨nd,rfl⟩⟩;(try first|exact ⟨rfl,_,World.drewN_drewN _ _ _⟩|exact ⟨rfl,_,Eq.trans (World.drewN_drewN _ _ _) (congrArg (World.drewN _) (Nat.add_assoc _ _ _))⟩))))
  go_ret3
  exact ⟨by first|rfl|(simp;done)|(simp only [i64_w,i32_w];done)|(simp only [i64_w,i32_w];rfl)|(simp [*];done)|(simp [emp_bne,emp_beq];done),by repeat (first|exact Drawn0.refl _|apply Drawn0.step)⟩

/-! ### strings_Cut: function 21 -/
def strings_Cut.f (a0:ByteArray) (a1:ByteArray):Option (ByteArray × ByteArray × Bool):=(stringslite_Cut.f a0 a1).bind fun bt309=>(some (bt309.1,bt309.2.1,bt309.2.2))
theorem strings_Cut.calls (a0:ByteArray) (a1:ByteArray) (r1:ByteArray) (r2:ByteArray) (r3:Bool) (w:World) (h:strings_Cut.f a0 a1 = some (r1,r2,r3)) :
  Calls Tryd.prog 21 #[.string a0, .string a1] w fun e w'=>e = .returned (.tuple #[.string r1, .string r2, .bool r3]) ∧ Drawn0 w w':=by
 have H:((stringslite_Cut.f a0 a1).bind fun bt309=>(some (bt309.1,bt309.2.1,bt309.2.2))) = some (r1,r2,r3):=h
 clear h
 replace H:=Option.bind_eq_some_iff.mp H
 obtain ⟨⟨t309,t310,t311⟩,A30,H⟩:=H
 replace H:(some (t309,t310,t311)) = some (r1,r2,r3):=H
 have A3:=Aside0.mk A30
 clear A30
 simp only [Option.some.injEq,Prod.mk.injEq] at H
 obtain ⟨rfl,rfl,rfl⟩:=H
 go_enter Tryd.func21,Tryd.ntmps21
 go_wp2_with (first|((with_reducible refine gate_callee (f:=40) rfl ?_);refine goesL_ (some 9) rfl rfl Tryd.func40 (by kernel_rfl) rfl #[.string a0, .string a1] rfl (by (try simp only [List.map_toArray,List.map_cons,List.map_nil]);first|done|rfl|(simp only [List.length_drop,List.length_take];rfl)) ?_;(with_reducible refine (stringslite_Cut.calls a0 a1 t309 t310 t311 _ A3.out).mono ?_);rintro e w' ⟨rfl,⟨nd,rfl⟩⟩;refine ⟨_,rfl,?_⟩))
 go_ret3
 exact ⟨by first|rfl|(simp;done)|(simp only [i64_w,i32_w];done)|(simp only [i64_w,i32_w];rfl)|(simp [*];done)|(simp [emp_bne,emp_beq];done),by repeat (first|exact Drawn0.refl _|apply Drawn0.step)⟩

/-! ### stringslite_HasPrefix: function 77 -/
def stringslite_HasPrefix.f (a0:ByteArray) (a1:ByteArray):Option (Bool):=if (a0.size:Int) ≥ (a1.size:Int) then (if 0 ≤ (a1.size:Int) then (if (a1.size:Int) ≤ (a0.size:Int) then (some ((a0.extract 0 ((a1.size:Int):Int).toNat).toList == a1.toList)) else (none)) else (none)) else (some false)
theorem stringslite_HasPrefix.calls (a0:ByteArray) (a1:ByteArray) (r:Bool) (w:World) (h:stringslite_HasPrefix.f a0 a1 = some r) :
  Calls Tryd.prog 77 #[.string a0, .string a1] w fun e w'=>e = .returned (.bool r) ∧ Drawn0 w w':=by
 have H:(if (a0.size:Int) ≥ (a1.size:Int) then (if 0 ≤ (a1.size:Int) then (if (a1.size:Int) ≤ (a0.size:Int) then (some ((a0.extract 0 ((a1.size:Int):Int).toNat).toList == a1.toList)) else (none)) else (none)) else (some false)) = some r:=h
 clear h
 by_cases c3:(a0.size:Int) ≥ (a1.size:Int)
 ·rw [if_pos c3] at H
  have c3b0:decide ((a1.size:Int) ≤ (a0.size:Int)) = true:=decide_eq_true c3
  have c3b1:decide (a1.size ≤ a0.size) = true:=decide_eq_true (Int.ofNat_le.mp c3)
  clear c3
  by_cases c4:0 ≤ (a1.size:Int)
  ·rw [if_pos c4] at H
   have c4b0:=eq_true c4
   have c4b1:=decide_eq_true c4
   clear c4
   by_cases c5:(a1.size:Int) ≤ (a0.size:Int)
   ·rw [if_pos c5] at H
    have c5b0:=eq_true c5
    have c5b1:=decide_eq_true c5
    clear c5
    obtain rfl:=Option.some.inj H
    go_enter Tryd.func77,Tryd.ntmps77
    go_wp2
    go_ret
    exact ⟨by first|rfl|(simp;done)|(simp only [i64_w,i32_w];done)|(simp only [i64_w,i32_w];rfl)|(simp [*];done)|(simp [emp_bne,emp_beq];done),by repeat (first|exact Drawn0.refl _|apply Drawn0.step)⟩
   ·rw [if_neg c5] at H
    exact absurd H (by simp)
  ·rw [if_neg c4] at H
   exact absurd H (by simp)
 ·rw [if_neg c3] at H
  have c3b0:decide ((a1.size:Int) ≤ (a0.size:Int)) = false:=decide_eq_false c3
  have c3b1:decide (a1.size ≤ a0.size) = false:=decide_eq_false (fun h=>c3 (Int.ofNat_le.mpr h))
  clear c3
  obtain rfl:=Option.some.inj H
  go_enter Tryd.func77,Tryd.ntmps77
  go_wp2
  go_ret
  exact ⟨by first|rfl|(simp;done)|(simp only [i64_w,i32_w];done)|(simp only [i64_w,i32_w];rfl)|(simp [*];done)|(simp [emp_bne,emp_beq];done),by repeat (first|exact Drawn0.refl _|apply Drawn0.step)⟩

/-! ### stringslite_CutPrefix: function 57 -/
def stringslite_CutPrefix.f (a0:ByteArray) (a1:ByteArray):Option (ByteArray × Bool):=(stringslite_HasPrefix.f a0 a1).bind fun t312=>(if t312 = true then (if 0 ≤ (a1.size:Int) then (if (a1.size:Int) ≤ (a0.size:Int) then (some (a0.extract ((a1.size:Int):Int).toNat a0.size,true)) else (none)) else (none)) else (some (a0,false)))
theorem stringslite_CutPrefix.calls (a0:ByteArray) (a1:ByteArray) (r1:ByteArray) (r2:Bool) (w:World) (h:stringslite_CutPrefix.f a0 a1 = some (r1,r2)) :
  Calls Tryd.prog 57 #[.string a0, .string a1] w fun e w'=>e = .returned (.tuple #[.string r1, .bool r2]) ∧ Drawn0 w w':=by
 have H:((stringslite_HasPrefix.f a0 a1).bind fun t312=>(if t312 = true then (if 0 ≤ (a1.size:Int) then (if (a1.size:Int) ≤ (a0.size:Int) then (some (a0.extract ((a1.size:Int):Int).toNat a0.size,true)) else (none)) else (none)) else (some (a0,false)))) = some (r1,r2):=h
 clear h
 replace H:=Option.bind_eq_some_iff.mp H
 obtain ⟨t312,A30,H⟩:=H
 replace H:(if t312 = true then (if 0 ≤ (a1.size:Int) then (if (a1.size:Int) ≤ (a0.size:Int) then (some (a0.extract ((a1.size:Int):Int).toNat a0.size,true)) else (none)) else (none)) else (some (a0,false))) = some (r1,r2):=H
 have A3:=Aside0.mk A30
 clear A30
 by_cases c4:t312 = true
 ·subst c4
  have H1:(if 0 ≤ (a1.size:Int) then (if (a1.size:Int) ≤ (a0.size:Int) then (some (a0.extract ((a1.size:Int):Int).toNat a0.size,true)) else (none)) else (none)) = some (r1,r2):=by rw [if_pos rfl] at H;exact H
  clear H
  have H:=H1
  clear H1
  by_cases c5:0 ≤ (a1.size:Int)
  ·rw [if_pos c5] at H
   have c5b0:=eq_true c5
   have c5b1:=decide_eq_true c5
   clear c5
   by_cases c6:(a1.size:Int) ≤ (a0.size:Int)
   ·rw [if_pos c6] at H
    have c6b0:=eq_true c6
    have c6b1:=decide_eq_true c6
    clear c6
    simp only [Option.some.injEq,Prod.mk.injEq] at H
    obtain ⟨rfl,rfl⟩:=H
    go_enter Tryd.func57,Tryd.ntmps57
    go_wp2_with (first|((with_reducible refine gate_callee (f:=77) rfl ?_);refine goesL_ (some 8) rfl rfl Tryd.func77 (by kernel_rfl) rfl #[.string a0, .string a1] rfl (by (try simp only [List.map_toArray,List.map_cons,List.map_nil]);first|done|rfl|(simp only [List.length_drop,List.length_take];rfl)) ?_;(with_reducible refine (stringslite_HasPrefix.calls a0 a1 true _ A3.out).mono ?_);rintro e w' ⟨rfl,⟨nd,rfl⟩⟩;refine ⟨_,rfl,?_⟩))
    go_ret2
    exact ⟨by first|rfl|(simp;done)|(simp only [i64_w,i32_w];done)|(simp only [i64_w,i32_w];rfl)|(simp [*];done)|(simp [emp_bne,emp_beq];done),by repeat (first|exact Drawn0.refl _|apply Drawn0.step)⟩
   ·rw [if_neg c6] at H
    exact absurd H (by simp)
  ·rw [if_neg c5] at H
   exact absurd H (by simp)
 ·replace c4:=Bool.eq_false_iff.mpr c4
  subst c4
  have H1:(some (a0,false)) = some (r1,r2):=by rw [if_neg (show ¬ (false = true) by decide)] at H;exact H
  clear H
  have H:=H1
  clear H1
  simp only [Option.some.injEq,Prod.mk.injEq] at H
  obtain ⟨rfl,rfl⟩:=H
  go_enter Tryd.func57,Tryd.ntmps57
  go_wp2_with (first|((with_reducible refine gate_callee (f:=77) rfl ?_);refine goesL_ (some 8) rfl rfl Tryd.func77 (by kernel_rfl) rfl #[.string a0, .string a1] rfl (by (try simp only [List.map_toArray,List.map_cons,List.map_nil]);first|done|rfl|(simp only [List.length_drop,List.length_take];rfl)) ?_;(with_reducible refine (stringslite_HasPrefix.calls a0 a1 false _ A3.out).mono ?_);rintro e w' ⟨rfl,⟨nd,rfl⟩⟩;refine ⟨_,rfl,?_⟩))
  go_ret2
  exact ⟨by first|rfl|(simp;done)|(simp only [i64_w,i32_w];done)|(simp only [i64_w,i32_w];rfl)|(simp [*];done)|(simp [emp_bne,emp_beq];done),by repeat (first|exact Drawn0.refl _|apply Drawn0.step)⟩

/-! ### strings_CutPrefix: function 41 -/
def strings_CutPrefix.f (a0:ByteArray) (a1:ByteArray):Option (ByteArray × Bool):=(stringslite_CutPrefix.f a0 a1).bind fun bt313=>(some (bt313.1,bt313.2))
theorem strings_CutPrefix.calls (a0:ByteArray) (a1:ByteArray) (r1:ByteArray) (r2:Bool) (w:World) (h:strings_CutPrefix.f a0 a1 = some (r1,r2)) :
  Calls Tryd.prog 41 #[.string a0, .string a1] w fun e w'=>e = .returned (.tuple #[.string r1, .bool r2]) ∧ Drawn0 w w':=by
 have H:((stringslite_CutPrefix.f a0 a1).bind fun bt313=>(some (bt313.1,bt313.2))) = some (r1,r2):=h
 clear h
 replace H:=Option.bind_eq_some_iff.mp H
 obtain ⟨⟨t313,t314⟩,A30,H⟩:=H
 replace H:(some (t313,t314)) = some (r1,r2):=H
 have A3:=Aside0.mk A30
 clear A30
 simp only [Option.some.injEq,Prod.mk.injEq] at H
 obtain ⟨rfl,rfl⟩:=H
 go_enter Tryd.func41,Tryd.ntmps41
 go_wp2_with (first|((with_reducible refine gate_callee (f:=57) rfl ?_);refine goesL_ (some 8) rfl rfl Tryd.func57 (by kernel_rfl) rfl #[.string a0, .string a1] rfl (by (try simp only [List.map_toArray,List.map_cons,List.map_nil]);first|done|rfl|(simp only [List.length_drop,List.length_take];rfl)) ?_;(with_reducible refine (stringslite_CutPrefix.calls a0 a1 t313 t314 _ A3.out).mono ?_);rintro e w' ⟨rfl,⟨nd,rfl⟩⟩;refine ⟨_,rfl,?_⟩))
 go_ret2
 exact ⟨by first|rfl|(simp;done)|(simp only [i64_w,i32_w];done)|(simp only [i64_w,i32_w];rfl)|(simp [*];done)|(simp [emp_bne,emp_beq];done),by repeat (first|exact Drawn0.refl _|apply Drawn0.step)⟩

/-! ### strings_IndexAny: function 42 -/
/-- Where a stroke or a question mark stands first; -1, if there is none. (Of other letters nothing is told.) -/
def strings_IndexAny.f (a0 a1:ByteArray):Option Int:=if a1.data.toList = [47,63] ∧ a0.size ≤ 1000000 then some (Go.Lib.indexAny a0.data.toList [47,63]) else none
def strings_IndexAny.two:ByteArray:=⟨#[47,63]⟩
theorem strings_IndexAny.two_size:strings_IndexAny.two.size = 2:=rfl
theorem strings_IndexAny.two_at (p:Nat) (h:p < 2):Utf8.decode strings_IndexAny.two p = ((if p = 0 then 47 else 63),1):=by
 have hc:p = 0 ∨ p = 1:=by omega
 rcases hc with rfl|rfl <;> rfl
set_option maxHeartbeats 2000000 in
set_option maxRecDepth 100000 in
theorem strings_IndexAny.bad (w:World) :
  Calls Tryd.prog 58 #[.string strings_IndexAny.two, .int .i32 65533] w fun e w'=>e = .returned (.int .i64 (-1)) ∧ Below w.heap.size w w':=by
 have HX:=Aside0.mk (fun (p:Nat) (ty:TypeId) (hp:p < strings_IndexAny.two.size)=>run_next_any (P:=Tryd.prog) w strings_IndexAny.two p ty hp)
 have HE:=Aside0.mk (fun (p:Nat) (ty:TypeId) (hp:¬ p < strings_IndexAny.two.size)=>run_next_end (P:=Tryd.prog) w strings_IndexAny.two p ty hp)
 go_enter Tryd.func58,Tryd.ntmps58
 go_wp2
 go_loopw [] (fun w'=>∃ p:Nat,p ≤ 2 ∧ w' = w.iter strings_IndexAny.two p) (fun w'=>2 - w'.iterPos w.heap.size)
 case atStart=>exact ⟨0,Nat.zero_le _,rfl⟩
 case round =>
  obtain ⟨p,hp,rfl⟩:=hrel
  by_cases hlt:p < 2
  ·obtain ⟨q,hq0,hq1,hq⟩:∃ q:Nat,1 ≤ q ∧ q ≤ 100 ∧ Utf8.decode strings_IndexAny.two p = (q,1):=⟨_,by split <;> omega,by split <;> omega,strings_IndexAny.two_at p hlt⟩
   have hx:∀ ty,(Instr.next (.pointer (some ⟨w.heap.size,0,none⟩)) true ty).run Tryd.prog (w.iter strings_IndexAny.two p) = .ok (.tuple #[.bool true, .int .i64 p, .int .i32 q]) (w.iter strings_IndexAny.two (p + 1)):=fun ty=>by
    rw [HX.out p ty hlt,hq]
   have hd:((q:Int) == 65533) = false:=beq_eq_false_iff_ne.mpr (by omega)
   clear hq hq0 hq1
   go_wp2
   go_roundw
   case rel=>exact ⟨p + 1,by omega,rfl⟩
   case measure=>simp;omega
  ·obtain rfl:p = 2:=by omega
   have hx:=fun ty=>HE.out 2 ty (by decide)
   go_wp2
   go_ret
   exact ⟨rfl,below_alloc (Below.refl _ _) _⟩
theorem strings_IndexAny.rest (x:Int) (W:World):Calls Tryd.prog 78 #[.string (strings_IndexAny.two.extract 2 2), .int .u8 x] W fun e w'=>e = .returned (.int .i64 (-1)) ∧ w' = W :=
 Tryd.strings_IndexByte _ x W
theorem strings_IndexAny.later {f:FuncId} {args:Array Value} {w:World} {a n:Nat} {v:Value} (h:Calls Tryd.prog f args (w.drewN (a + n)) fun e w'=>e = .returned v ∧ w' = w.drewN (a + n)) :
  Calls Tryd.prog f args (w.drewN (a + n)) fun e w''=>e = .returned v ∧ ∃ m,w'' = w.drewN (a + m) :=
 h.mono fun _ _ ⟨he,hm⟩=>⟨he,n,hm⟩
set_option maxHeartbeats 2000000 in
set_option maxRecDepth 100000 in
theorem strings_IndexAny.rune (r:Int) (w:World) (h0:128 ≤ r) (h1:r ≤ 1114111) (h2:r < 55296 ∨ 57343 < r) :
  Calls Tryd.prog 58 #[.string strings_IndexAny.two, .int .i32 r] w fun e w'=>e = .returned (.int .i64 (-1)) ∧ Below w.heap.size w w':=by
 by_cases hb:r = 65533
 ·subst hb;exact strings_IndexAny.bad w
 have hd:(r == 65533) = false:=beq_eq_false_iff_ne.mpr hb
 have hv:Go.Lib.validRune r = true:=by unfold Go.Lib.validRune;exact decide_eq_true (by omega)
 have hv2:Utf8.valid r = true:=by
  unfold Utf8.valid
  simp only [Bool.or_eq_true,Bool.and_eq_true,decide_eq_true_eq]
  omega
 obtain ⟨hs2,hs4,hs1⟩:=encode_facts r hv2 h0
 obtain ⟨s,hs⟩:∃ s,Utf8.encode r = s:=⟨_,rfl⟩
 rw [hs] at hs2 hs4
 have hs3:∀ h:s.size - 1 < s.size,128 ≤ (s[s.size - 1]'h).toNat:=by subst hs;exact hs1
 have hl:¬ r < 128:=by omega
 have hge:(0:Int) ≤ r:=by omega
 have HV:=Aside0.mk hv
 have H1:=Aside0.mk hs3
 clear hv hv2 hb h2 h1 h0 hs1 hs3
 have ht:=strings_IndexAny.two_size
 by_cases c:s.size = 2
 ·have hlt1:1 < s.size:=by omega
  have htl:1 < strings_IndexAny.two.size:=by decide
  have h63:strings_IndexAny.two[1]'htl = 63:=rfl
  have hlast:128 ≤ (s[1]'hlt1).toNat:=by
   have:=H1.out (by omega)
   have e:s.size - 1 = 1:=by omega
   simpa only [e] using this
  have hne:((63:Int) == ((s[1]'hlt1).toNat:Int)) = false:=beq_eq_false_iff_ne.mpr (by omega)
  have hne2:((63:Int) != ((s[1]'hlt1).toNat:Int)) = true:=bne_iff_ne.mpr (by omega)
  have h63n:((strings_IndexAny.two[1]'htl).toNat:Int) = 63:=rfl
  clear H1 hlast hs2 hs4 h63
  go_enter Tryd.func58,Tryd.ntmps58
  go_wp2_with (go_at_call 79;refine (Tryd.utf8_ValidRune _ _).mono ?_;rintro e w' ⟨rfl,hw⟩;rw [hw,HV.out])
  go_step3
  go_wp2
  refine wp_loop_rounds 1 ?_
  rw [rounds_succ]
  go_wp2
  go_step3
  go_wp2
  go_quiet (fail)
  go_wp2
  go_quiet ((go_at_call 78;exact strings_IndexAny.later (strings_IndexAny.rest _ _)))
  go_wp2
  rw [Exit.noGoto_ret]
  go_wp2
  rw [Exit.noGoto_ret]
  go_ret
  exact ⟨rfl,pw_below_drewN (Below.refl _ _) _⟩
 ·have c3:(2:Int) ≤ (s.size:Int) - 1:=by omega
  clear c
  go_enter Tryd.func58,Tryd.ntmps58
  go_wp2_with (go_at_call 79;refine (Tryd.utf8_ValidRune _ _).mono ?_;rintro e w' ⟨rfl,hw⟩;rw [hw,HV.out])
  go_step3
  go_wp2
  refine wp_loop_rounds 1 ?_
  rw [rounds_succ]
  go_wp2
  rw [Exit.noGoto_ret]
  go_ret
  exact ⟨rfl,Below.refl _ _⟩
theorem strings_IndexAny.get (s:ByteArray) (j:Nat) (h:j < s.size):s.data.toList[j]? = some (s.get! j):=by
 rw [Go.Lib.data_getElem? s j h]
 congr 1
 exact (getElem!_pos s.data j h).symm
/-- What a letter that is no plain byte takes: bytes from 128 on. -/
theorem strings_IndexAny.dec (s:ByteArray) (i:Nat) (h:i < s.size) (hb:128 ≤ (s.get! i).toNat) :
  ∃ r n:Nat,Utf8.decode s i = (r,n) ∧ 128 ≤ r ∧ r ≤ 1114111 ∧ (r < 55296 ∨ 57343 < r) ∧ 1 ≤ n ∧ ∀ j,i ≤ j → j < i + n → j < s.size ∧ 128 ≤ (s.get! j).toNat:=by
 have one:∀ j,i ≤ j → j < i + 1 → j < s.size ∧ 128 ≤ (s.get! j).toNat:=fun j h1 h2=>by
  obtain rfl:j = i:=by omega
  exact ⟨h,hb⟩
 have bad:∃ r n:Nat,(Utf8.runeError,1) = (r,n) ∧ 128 ≤ r ∧ r ≤ 1114111 ∧ (r < 55296 ∨ 57343 < r) ∧ 1 ≤ n ∧ ∀ j,i ≤ j → j < i + n → j < s.size ∧ 128 ≤ (s.get! j).toNat :=
  ⟨_,_,rfl,by unfold Utf8.runeError;omega,by unfold Utf8.runeError;omega, .inr (by unfold Utf8.runeError;omega),Nat.le_refl _,one⟩
 have byte:∀ k,(s.get! k).toNat < 256:=fun k=>(s.get! k).toNat_lt
 unfold Utf8.decode
 simp only [Nat.add_zero]
 rw [if_neg (by omega)]
 have b0:=byte i
 split
 ·rename_i c
  simp only [Bool.and_eq_true,decide_eq_true_eq,beq_iff_eq] at c
  split
  ·refine ⟨_,_,rfl,by omega,by have:=byte (i + 1);omega, .inl (by omega),by omega,fun j h1 h2=>?_⟩
   rcases (by omega:j = i ∨ j = i + 1) with rfl|rfl
   ·exact ⟨h,hb⟩
   ·exact ⟨c.2.1,by omega⟩
  ·exact bad
 split
 ·rename_i c
  simp only [Bool.and_eq_true,decide_eq_true_eq,beq_iff_eq] at c
  split
  ·rename_i v
   simp only [Utf8.valid,Bool.and_eq_true,Bool.or_eq_true,decide_eq_true_eq] at v
   refine ⟨_,_,rfl,by omega,by omega,by omega,by omega,fun j h1 h2=>?_⟩
   rcases (by omega:j = i ∨ j = i + 1 ∨ j = i + 2) with rfl|rfl|rfl
   ·exact ⟨h,hb⟩
   ·exact ⟨c.1.2.1,by omega⟩
   ·exact ⟨c.2.1,by omega⟩
  ·exact bad
 split
 ·rename_i c
  simp only [Bool.and_eq_true,decide_eq_true_eq,beq_iff_eq] at c
  split
  ·rename_i v
   simp only [Utf8.valid,Bool.and_eq_true,Bool.or_eq_true,decide_eq_true_eq] at v
   refine ⟨_,_,rfl,by omega,by omega,by omega,by omega,fun j h1 h2=>?_⟩
   rcases (by omega:j = i ∨ j = i + 1 ∨ j = i + 2 ∨ j = i + 3) with rfl|rfl|rfl|rfl
   ·exact ⟨h,hb⟩
   ·exact ⟨c.1.1.2.1,by omega⟩
   ·exact ⟨c.1.2.1,by omega⟩
   ·exact ⟨c.2.1,by omega⟩
  ·exact bad
 ·exact bad
theorem strings_IndexAny.past (s:ByteArray) (i n:Nat) (hn:Go.Lib.NoAny s.data.toList [47,63] i) (hb:∀ j,i ≤ j → j < i + n → j < s.size ∧ 128 ≤ (s.get! j).toNat):Go.Lib.NoAny s.data.toList [47,63] (i + n):=by
 intro j b hj he
 by_cases c:j < i
 ·exact hn j b c he
 ·obtain ⟨h1,h2⟩:=hb j (by omega) hj
  rw [strings_IndexAny.get s j h1] at he
  obtain rfl:=Option.some.inj he
  have e1:¬ s.get! j = 47:=fun e=>by rw [e] at h2;exact absurd h2 (by decide)
  have e2:¬ s.get! j = 63:=fun e=>by rw [e] at h2;exact absurd h2 (by decide)
  simp [e1,e2]
theorem strings_IndexAny.plain (r:Int) (w:World) (h0:0 ≤ r) (h1:r < 128) :
  Calls Tryd.prog 58 #[.string strings_IndexAny.two, .int .i32 r] w fun e w'=>e = .returned (.int .i64 (if r = 47 then 0 else if r = 63 then 1 else -1)) ∧ w' = w:=by
 refine (Tryd.strings_IndexRune_ascii strings_IndexAny.two r w h0 h1).mono fun e w' ⟨he,hw⟩=>⟨?_,hw⟩
 rw [he]
 obtain ⟨n,rfl⟩:=Int.eq_ofNat_of_zero_le h0
 have hn:n < 128:=by omega
 show Ending.returned (Value.int .i64 (Go.Lib.indexByte [47,63] (n.toUInt8))) = _
 congr 2
 have key:∀ m:Fin 128,Go.Lib.indexByte [47,63] (m.val.toUInt8) = if (m.val:Int) = 47 then 0 else if (m.val:Int) = 63 then 1 else -1:=by decide
 exact key ⟨n,hn⟩
set_option maxHeartbeats 4000000 in
set_option maxRecDepth 100000 in
theorem strings_IndexAny.short (s:ByteArray) (w:World) (h8:s.size ≤ 8) :
  Calls Tryd.prog 42 #[.string s, .string strings_IndexAny.two] w fun e w'=>e = .returned (.int .i64 (Go.Lib.indexAny s.data.toList [47,63])) ∧ Below w.heap.size w w':=by
 have hemp:strings_IndexAny.two.toList.isEmpty = false:=by rw [Go.ByteArray.toList_eq];rfl
 have hn1:((strings_IndexAny.two.size:Int) == 1) = false:=rfl
 have h8z:decide ((8:Int) < (s.size:Int)) = false:=decide_eq_false (by omega)
 have HL:=Aside0.mk (show s.data.toList.length = s.size from (Go.Lib.size_eq s).symm)
 go_enter Tryd.func42,Tryd.ntmps42
 go_wp2_with (go_at_call 59;refine (Tryd.strings_shouldUseASCIISet _ _).mono ?_;rintro e w' ⟨rfl,hw⟩;rw [hw,h8z])
 clear h8z hemp hn1
 go_loopg [9,10] s.size (fun g _ _ wr=>∃ i:Nat,i + g = s.size ∧ wr.heap[w.heap.size]? = some (.stringIter s i) ∧ Aside0 (Below w.heap.size w wr) ∧ Aside0 (Go.Lib.NoAny s.data.toList [47,63] i))
 case atStart=>exact ⟨0,by omega,World.iter_heap w s 0,⟨below_alloc (Below.refl _ _) _⟩,⟨Go.Lib.NoAny.zero _ _⟩⟩
 case round =>
  obtain ⟨i,hig,hk,HB,HN⟩:=hrel
  have HK:=Aside0.mk hk
  have hsz:w.heap.size < wr.heap.size:=(Array.getElem?_eq_some_iff.1 hk).1
  by_cases hz:i < s.size
  rotate_left
  ·obtain rfl:i = s.size:=by omega
   have hnx:=fun ty=>Go.Lib.run_next_end_at (P:=Tryd.prog) wr w.heap.size s s.size ty HK.out (by omega)
   clear hk
   go_wp2
   go_ret
   exact ⟨by rw [Go.Lib.indexAny_none (by rw [HL.out];exact HN.out)];rfl,HB.out⟩
  by_cases hb:128 ≤ (s.get! i).toNat
  ·obtain ⟨r,n,hd,r0,r1,r2,n1,hall⟩:=strings_IndexAny.dec s i hz hb
   have hnx:∀ ty,(Instr.next (.pointer (some ⟨w.heap.size,0,none⟩)) true ty).run Tryd.prog wr = .ok (.tuple #[.bool true, .int .i64 i, .int .i32 r]) (wr.iterAt w.heap.size s (i + n)):=fun ty=>by
    rw [Go.Lib.run_next_any_at wr w.heap.size s i ty HK.out hz,hd]
   have HP:=Aside0.mk (strings_IndexAny.past s i n HN.out hall)
   have hin:i + n ≤ s.size:=by
    have:=(hall (i + n - 1) (by omega) (by omega)).1
    omega
   clear hk hd hall hb
   go_wp2_with (go_at_call 58;refine (strings_IndexAny.rune r _ (by omega) (by omega) (by omega)).mono ?_;rintro e w1 ⟨rfl,hbl⟩)
   go_roundg (s.size - (i + n))
   case measure=>omega
   case rel =>
    have hs2:(wr.iterAt w.heap.size s (i + n)).heap.size = wr.heap.size:=Go.Lib.iterAt_size _ _ _ _
    refine ⟨i + n,by omega,?_,⟨?_⟩,HP⟩
    ·rw [hbl.block w.heap.size (by rw [hs2];exact hsz)]
     exact Go.Lib.iterAt_heap _ _ _ _ _ HK.out
    ·exact below_then (Go.Lib.below_iterAt HB.out (Nat.le_refl _) s (i + n)) (by rw [hs2];omega) hbl
  ·obtain ⟨x,hx⟩:∃ x:UInt8,s[i]'hz = x:=⟨_,rfl⟩
   have hxl:s.data.toList[i]? = some x:=by rw [← hx];exact Go.Lib.data_getElem? s i hz
   have hx128:x.toNat < 128:=by
    have:=strings_IndexAny.get s i hz
    rw [hxl] at this
    obtain rfl:=Option.some.inj this
    omega
   have hnx:∀ ty,(Instr.next (.pointer (some ⟨w.heap.size,0,none⟩)) true ty).run Tryd.prog wr = .ok (.tuple #[.bool true, .int .i64 i, .int .i32 x.toNat]) (wr.iterAt w.heap.size s (i + 1)):=fun ty=>by
    rw [Go.Lib.run_next_ascii_at wr w.heap.size s i ty HK.out hz (by rw [hx];exact hx128),hx]
   have HX:=Aside0.mk hxl
   clear hk hx hxl hb
   by_cases h47:x.toNat = 47
   ·have HI:=Aside0.mk (Go.Lib.indexAny_hit HN.out HX.out (show ([47,63]:List UInt8).contains x = true by rw [show x = 47 from UInt8.toNat_inj.mp h47];rfl))
    rw [h47] at hnx
    clear h47 hx128
    go_wp2_with (go_at_call 58;refine (strings_IndexAny.plain 47 _ (by omega) (by omega)).mono ?_;rintro e w1 ⟨rfl,hw⟩;rw [hw])
    go_ret
    exact ⟨by rw [HI.out];rfl,Go.Lib.below_iterAt HB.out (Nat.le_refl _) s (i + 1)⟩
   by_cases h63:x.toNat = 63
   ·have HI:=Aside0.mk (Go.Lib.indexAny_hit HN.out HX.out (show ([47,63]:List UInt8).contains x = true by rw [show x = 63 from UInt8.toNat_inj.mp h63];rfl))
    rw [h63] at hnx
    clear h63 h47 hx128
    go_wp2_with (go_at_call 58;refine (strings_IndexAny.plain 63 _ (by omega) (by omega)).mono ?_;rintro e w1 ⟨rfl,hw⟩;rw [hw])
    go_ret
    exact ⟨by rw [HI.out];rfl,Go.Lib.below_iterAt HB.out (Nat.le_refl _) s (i + 1)⟩
   ·have HP:=Aside0.mk (HN.out.succ HX.out (show ([47,63]:List UInt8).contains x = false by
     have e1:¬ x = 47:=fun e=>h47 (by rw [e];rfl)
     have e2:¬ x = 63:=fun e=>h63 (by rw [e];rfl)
     simp [e1,e2]))
    have HM:=Aside0.mk (show (if (x.toNat:Int) = 47 then (0:Int) else if (x.toNat:Int) = 63 then 1 else -1) = -1 by rw [if_neg (by omega),if_neg (by omega)])
    clear h47 h63
    go_wp2_with (go_at_call 58;refine (strings_IndexAny.plain x.toNat _ (by omega) (by omega)).mono ?_;rintro e w1 ⟨rfl,hw⟩;rw [hw,HM.out])
    go_roundg (s.size - (i + 1))
    case measure=>omega
    case rel=>exact ⟨i + 1,by omega,Go.Lib.iterAt_heap _ _ _ _ _ HK.out,⟨Go.Lib.below_iterAt HB.out (Nat.le_refl _) s (i + 1)⟩,HP⟩
theorem strings_IndexAny.zero (w:World):(zeroValue 62).run Tryd.prog w = .ok (.agg (Array.replicate 256 (.bool false))) w:=by kernel_rfl
theorem strings_IndexAny.calls (a0 a1:ByteArray) (r:Int) (w:World) (h:strings_IndexAny.f a0 a1 = some r) :
  Calls Tryd.prog 42 #[.string a0, .string a1] w fun e w'=>e = .returned (.int .i64 r) ∧ Below w.heap.size w w':=by
 unfold strings_IndexAny.f at h
 split at h
 rotate_left
 ·cases h
 rename_i hc
 obtain ⟨h1,h2⟩:=hc
 obtain rfl:=Option.some.inj h
 obtain rfl:a1 = strings_IndexAny.two:=ByteArray.ext (Array.toList_inj.mp h1)
 by_cases h8:a0.size ≤ 8
 ·exact strings_IndexAny.short a0 w h8
 ·refine (Tryd.strings_IndexAny_long strings_IndexAny.zero a0 strings_IndexAny.two w (by decide) (by omega) (by omega) (by decide) ?_).mono fun e w' ⟨he,hw⟩=>⟨he,?_⟩
  ·intro j b hb
   have hb':([47,63]:List UInt8)[j]? = some b:=hb
   match j,hb' with
   | 0,hb'=>cases hb';decide
   | 1,hb'=>cases hb';decide
  ·rw [hw];exact below_alloc (below_alloc (Below.refl _ _) _) _

/-! ### strings_Join: function 66 -/
/-- The elements put together. -/
def strings_Join.f (l0:List ByteArray) (a1:ByteArray):Option ByteArray :=
 if l0.length ≤ 140737488355328 ∧ (Go.Lib.join (l0.map (·.data.toList)) a1.data.toList).length ≤ 140737488355328 then some ⟨(Go.Lib.join (l0.map (·.data.toList)) a1.data.toList).toArray⟩ else none
theorem strings_Join.plain {w:World} {ad:Addr} {j:Nat} {v:Value} (h:w.cell? (ad.add j) = some v) (h0:∃ u,w.cell? (ad.add 0) = some u):w.cell? ⟨ad.block,ad.off + j,none⟩ = some v ∧ ad.spot = none:=by
 have hs:ad.spot = none:=by
  obtain ⟨u,hu⟩:=h0
  unfold World.cell? at hu
  split at hu
  ·split at hu
   ·cases hu
   ·rename_i hn
    unfold Addr.add at hn
    simpa using hn
  ·cases hu
 refine ⟨?_,hs⟩
 rw [← h]
 congr 1
 unfold Addr.add
 split
 ·rename_i hj;subst hj;cases ad;simp_all
 ·rfl
theorem strings_Join.calls (A0:Option Addr) (c0:Nat) (l0:List ByteArray) (a1:ByteArray) (r:ByteArray) (w:World) (hr0:Kd.C Kd.string w A0 l0.length l0) (hc0:l0.length ≤ c0) (h:strings_Join.f l0 a1 = some r) :
  Calls Tryd.prog 66 #[.slice A0 l0.length c0, .string a1] w fun e w'=>e = .returned (.string r) ∧ Below w.heap.size w w':=by
 unfold strings_Join.f at h
 split at h
 rotate_left
 ·cases h
 rename_i hb
 obtain rfl:=Option.some.inj h
 cases l0 with
 | nil=>exact (Tryd.strings_Join_none A0 c0 a1 w).mono fun e w' ⟨he,hw⟩=>⟨by rw [he];rfl,hw ▸ Below.refl _ _⟩
 | cons x l =>
  obtain ⟨ad,rfl,hc⟩:=hr0.2.2 (by simp)
  have hcell:∀ (j:Nat) y,(x :: l)[j]? = some y → w.cell? (ad.add j) = some (.string y):=fun j y hy=>by
   obtain ⟨c,_,hK,hcc⟩:=hc j y hy
   have hK':c = [.string y]:=hK
   subst hK'
   have:=hcc 0 _ rfl
   rwa [show j * Kd.string.sz + 0 = j by show j * 1 + 0 = j;omega] at this
  have h0:∃ u,w.cell? (ad.add 0) = some u:=⟨_,hcell 0 x rfl⟩
  have hp:=fun (j:Nat) y (hy:(x :: l)[j]? = some y)=>(strings_Join.plain (hcell j y hy) h0).1
  have hs:=(strings_Join.plain (hcell 0 x rfl) h0).2
  have hbk:ad.block < w.heap.size:=World.block_lt_of_cell? w ⟨ad.block,ad.off + 0,none⟩ (hp 0 x rfl)
  have hl:(x :: l).length ≤ 140737488355328:=hb.1
  have:=Tryd.strings_Join ad.block ad.off c0 (x :: l) a1 w hp hbk hl hc0 hb.2
  rw [show (⟨ad.block,ad.off,none⟩:Addr) = ad by cases ad;simp_all] at this
  exact this

/-! ### impl_writePath: function 47 -/
def impl_writePath.f (a0_0:ByteArray) (l0_1:List ByteArray) (a0_2:Bool) (a0_3:ByteArray):Option (ByteArray):=(strings_Join.f l0_1 (⟨#[47]⟩:ByteArray)).bind fun t316=>(if 1 + t316.size ≤ 9223372036854775807 then (if a0_2 = true then (if 1 + a0_3.size ≤ 9223372036854775807 then (if ((⟨#[47]⟩:ByteArray) ++ t316).size + ((⟨#[63]⟩:ByteArray) ++ a0_3).size ≤ 9223372036854775807 then (some (((⟨#[47]⟩:ByteArray) ++ t316) ++ ((⟨#[63]⟩:ByteArray) ++ a0_3))) else (none)) else (none)) else (some ((⟨#[47]⟩:ByteArray) ++ t316))) else (none))
theorem impl_writePath.calls (a0_0:ByteArray) (A0_1:Option Addr) (c0_1:Nat) (l0_1:List ByteArray) (a0_2:Bool) (a0_3:ByteArray) (r:ByteArray) (w:World) (hr0_1:Kd.C Kd.string w A0_1 l0_1.length l0_1) (hc0_1:l0_1.length ≤ c0_1) (h:impl_writePath.f a0_0 l0_1 a0_2 a0_3 = some r) :
  Calls Tryd.prog 47 #[.agg #[.string a0_0, .slice A0_1 l0_1.length c0_1, .bool a0_2, .string a0_3]] w fun e w'=>e = .returned (.string r) ∧ Below w.heap.size w w':=by
 have hu24:=Tryd.underlying24
 have HR0_1:=Aside0.mk hr0_1
 have HC0_1:=Aside0.mk hc0_1
 clear hr0_1 hc0_1
 have HB:=Aside0.mk (Below.refl w.heap.size w)
 have H:((strings_Join.f l0_1 (⟨#[47]⟩:ByteArray)).bind fun t316=>(if 1 + t316.size ≤ 9223372036854775807 then (if a0_2 = true then (if 1 + a0_3.size ≤ 9223372036854775807 then (if ((⟨#[47]⟩:ByteArray) ++ t316).size + ((⟨#[63]⟩:ByteArray) ++ a0_3).size ≤ 9223372036854775807 then (some (((⟨#[47]⟩:ByteArray) ++ t316) ++ ((⟨#[63]⟩:ByteArray) ++ a0_3))) else (none)) else (none)) else (some ((⟨#[47]⟩:ByteArray) ++ t316))) else (none))) = some r:=h
 clear h
 replace H:=Option.bind_eq_some_iff.mp H
 obtain ⟨t316,A20,H⟩:=H
 replace H:(if 1 + t316.size ≤ 9223372036854775807 then (if a0_2 = true then (if 1 + a0_3.size ≤ 9223372036854775807 then (if ((⟨#[47]⟩:ByteArray) ++ t316).size + ((⟨#[63]⟩:ByteArray) ++ a0_3).size ≤ 9223372036854775807 then (some (((⟨#[47]⟩:ByteArray) ++ t316) ++ ((⟨#[63]⟩:ByteArray) ++ a0_3))) else (none)) else (none)) else (some ((⟨#[47]⟩:ByteArray) ++ t316))) else (none)) = some r:=H
 have A2:=Aside0.mk A20
 clear A20
 by_cases c3:1 + t316.size ≤ 9223372036854775807
 ·rw [if_pos c3] at H
  have c3b0:=eq_true c3
  have c3b1:=decide_eq_true c3
  try have c3b2:(9223372036854775807 < 1 + t316.size) = False:=eq_false (Nat.not_lt.2 c3)
  by_cases c4:a0_2 = true
  ·subst c4
   have H1:(if 1 + a0_3.size ≤ 9223372036854775807 then (if ((⟨#[47]⟩:ByteArray) ++ t316).size + ((⟨#[63]⟩:ByteArray) ++ a0_3).size ≤ 9223372036854775807 then (some (((⟨#[47]⟩:ByteArray) ++ t316) ++ ((⟨#[63]⟩:ByteArray) ++ a0_3))) else (none)) else (none)) = some r:=by rw [if_pos rfl] at H;exact H
   clear H
   have H:=H1
   clear H1
   by_cases c5:1 + a0_3.size ≤ 9223372036854775807
   ·rw [if_pos c5] at H
    have c5b0:=eq_true c5
    have c5b1:=decide_eq_true c5
    try have c5b2:(9223372036854775807 < 1 + a0_3.size) = False:=eq_false (Nat.not_lt.2 c5)
    by_cases c6:((⟨#[47]⟩:ByteArray) ++ t316).size + ((⟨#[63]⟩:ByteArray) ++ a0_3).size ≤ 9223372036854775807
    ·rw [if_pos c6] at H
     have c6b0:=eq_true c6
     have c6b1:=decide_eq_true c6
     try have c6b3:(9223372036854775807 < 1 + t316.size + 1 + a0_3.size) = False:=eq_false (Nat.not_lt.2 (by have h_:=c6;simp only [ByteArray.size_append] at h_;exact h_))
     try have c6b2:(9223372036854775807 < ((⟨#[47]⟩:ByteArray) ++ t316).size + ((⟨#[63]⟩:ByteArray) ++ a0_3).size) = False:=eq_false (Nat.not_lt.2 c6)
     obtain rfl:=Option.some.inj H
     go_enter Tryd.func47,Tryd.ntmps47
     go_wp2_with (first|((with_reducible refine gate_dst (N:=1) rfl ?_);refine box_event ?hg (N:=1) ?hd (cs:=#[.string a0_0, .slice A0_1 l0_1.length c0_1, .bool true, .string a0_3]) (t:=24) ?hr ?_;(case hd=>rfl);(case hg=>rfl);(case hr=>first|(go_simp;done)|(go_simp;rfl));intro gb315 hg w7 hbox hb;have n0_:=Aside0.mk (below_step (by repeat (first|(with_reducible first|exact HB.out|apply below_alloc|apply pw_below_drewN|apply below_drew1)|exact HB.out)) hb);have n1_:=Aside0.mk (hbox);have n2_:=Aside0.mk ((by rw [hg];exact (below_size (by repeat (first|(with_reducible first|exact HB.out|apply below_alloc|apply pw_below_drewN|apply below_drew1)|exact HB.out))):w.heap.size ≤ gb315));have n3_:=n2_;clear HB;have HB:=n0_;have BK315:=n1_;have GW315:=n2_;have GE315:=n3_;clear n0_ n1_ n2_ n3_;clear hb hbox hg;have hcz8_0:w7.cell? ⟨gb315,0,none⟩ = some (.string a0_0):=(blk_cell BK315.out 0).trans rfl;have hcz8_1:w7.cell? ⟨gb315,1,none⟩ = some (.slice A0_1 l0_1.length c0_1):=(blk_cell BK315.out 1).trans rfl;have hcz8_2:w7.cell? ⟨gb315,2,none⟩ = some (.bool true):=(blk_cell BK315.out 2).trans rfl;have hcz8_3:w7.cell? ⟨gb315,3,none⟩ = some (.string a0_3):=(blk_cell BK315.out 3).trans rfl;have hfz8_0:=blk_frozen BK315.out 0;have hfz8_1:=blk_frozen BK315.out 1;have hfz8_2:=blk_frozen BK315.out 2;have hfz8_3:=blk_frozen BK315.out 3)|((with_reducible refine gate_callee (f:=66) rfl ?_);refine goesL_ (some 6) rfl rfl Tryd.func66 (by kernel_rfl) rfl #[.slice A0_1 l0_1.length c0_1, .string (⟨#[47]⟩:ByteArray)] rfl (by (try simp only [List.map_toArray,List.map_cons,List.map_nil]);first|done|rfl|(simp only [List.length_drop,List.length_take];rfl)) ?_;(with_reducible refine (strings_Join.calls _ _ l0_1 (⟨#[47]⟩:ByteArray) t316 _ ?side1 ?side2 A2.out).mono ?_);(case side1=>repeat (first|exact (Kd.C_below HR0_1.out HB.out)|(with_reducible refine Kd.C_alloc ?_ _)|(with_reducible refine Kd.C_drewN ?_ _)|(with_reducible refine Kd.C_drew ?_)));(case side2=>exact HC0_1.out);rintro e w9 ⟨rfl,hb⟩;refine ⟨_,rfl,?_⟩;have n0_:=Aside0.mk (blk_below (g:=gb315) (o:=.cells #[.string a0_0, .slice A0_1 l0_1.length c0_1, .bool true, .string a0_3] 24 (0,0)) (by (with_reducible repeat (first|refine blk_drewN ?_ _|refine blk_drew ?_|refine blk_alloc ?_ _));exact BK315.out) hb);have n1_:=Aside0.mk (below_step (by repeat (first|(with_reducible first|exact HB.out|apply below_alloc|apply pw_below_drewN|apply below_drew1|refine below_set ?_ GE315.out)|exact HB.out)) hb);clear BK315;clear HB;have BK315:=n0_;have HB:=n1_;clear n0_ n1_;(try clear hb);(try clear hb2);(try clear hk);(try clear hi);have hcz10_0:w9.cell? ⟨gb315,0,none⟩ = some (.string a0_0):=(blk_cell BK315.out 0).trans rfl;have hcz10_1:w9.cell? ⟨gb315,1,none⟩ = some (.slice A0_1 l0_1.length c0_1):=(blk_cell BK315.out 1).trans rfl;have hcz10_2:w9.cell? ⟨gb315,2,none⟩ = some (.bool true):=(blk_cell BK315.out 2).trans rfl;have hcz10_3:w9.cell? ⟨gb315,3,none⟩ = some (.string a0_3):=(blk_cell BK315.out 3).trans rfl;have hfz10_0:=blk_frozen BK315.out 0;have hfz10_1:=blk_frozen BK315.out 1;have hfz10_2:=blk_frozen BK315.out 2;have hfz10_3:=blk_frozen BK315.out 3))
     go_ret
     exact ⟨by first|rfl|(simp <;> rfl)|(simp [*] <;> rfl),by repeat (first|(with_reducible first|exact HB.out|apply below_alloc|apply pw_below_drewN|apply below_drew1|refine below_set ?_ GE315.out)|exact HB.out)⟩
    ·rw [if_neg c6] at H
     exact absurd H (by simp)
   ·rw [if_neg c5] at H
    exact absurd H (by simp)
  ·replace c4:=Bool.eq_false_iff.mpr c4
   subst c4
   have H1:(some ((⟨#[47]⟩:ByteArray) ++ t316)) = some r:=by rw [if_neg (show ¬ (false = true) by decide)] at H;exact H
   clear H
   have H:=H1
   clear H1
   obtain rfl:=Option.some.inj H
   go_enter Tryd.func47,Tryd.ntmps47
   go_wp2_with (first|((with_reducible refine gate_dst (N:=1) rfl ?_);refine box_event ?hg (N:=1) ?hd (cs:=#[.string a0_0, .slice A0_1 l0_1.length c0_1, .bool false, .string a0_3]) (t:=24) ?hr ?_;(case hd=>rfl);(case hg=>rfl);(case hr=>first|(go_simp;done)|(go_simp;rfl));intro gb315 hg w11 hbox hb;have n0_:=Aside0.mk (below_step (by repeat (first|(with_reducible first|exact HB.out|apply below_alloc|apply pw_below_drewN|apply below_drew1)|exact HB.out)) hb);have n1_:=Aside0.mk (hbox);have n2_:=Aside0.mk ((by rw [hg];exact (below_size (by repeat (first|(with_reducible first|exact HB.out|apply below_alloc|apply pw_below_drewN|apply below_drew1)|exact HB.out))):w.heap.size ≤ gb315));have n3_:=n2_;clear HB;have HB:=n0_;have BK315:=n1_;have GW315:=n2_;have GE315:=n3_;clear n0_ n1_ n2_ n3_;clear hb hbox hg;have hcz12_0:w11.cell? ⟨gb315,0,none⟩ = some (.string a0_0):=(blk_cell BK315.out 0).trans rfl;have hcz12_1:w11.cell? ⟨gb315,1,none⟩ = some (.slice A0_1 l0_1.length c0_1):=(blk_cell BK315.out 1).trans rfl;have hcz12_2:w11.cell? ⟨gb315,2,none⟩ = some (.bool false):=(blk_cell BK315.out 2).trans rfl;have hcz12_3:w11.cell? ⟨gb315,3,none⟩ = some (.string a0_3):=(blk_cell BK315.out 3).trans rfl;have hfz12_0:=blk_frozen BK315.out 0;have hfz12_1:=blk_frozen BK315.out 1;have hfz12_2:=blk_frozen BK315.out 2;have hfz12_3:=blk_frozen BK315.out 3)|((with_reducible refine gate_callee (f:=66) rfl ?_);refine goesL_ (some 6) rfl rfl Tryd.func66 (by kernel_rfl) rfl #[.slice A0_1 l0_1.length c0_1, .string (⟨#[47]⟩:ByteArray)] rfl (by (try simp only [List.map_toArray,List.map_cons,List.map_nil]);first|done|rfl|(simp only [List.length_drop,List.length_take];rfl)) ?_;(with_reducible refine (strings_Join.calls _ _ l0_1 (⟨#[47]⟩:ByteArray) t316 _ ?side1 ?side2 A2.out).mono ?_);(case side1=>repeat (first|exact (Kd.C_below HR0_1.out HB.out)|(with_reducible refine Kd.C_alloc ?_ _)|(with_reducible refine Kd.C_drewN ?_ _)|(with_reducible refine Kd.C_drew ?_)));(case side2=>exact HC0_1.out);rintro e w13 ⟨rfl,hb⟩;refine ⟨_,rfl,?_⟩;have n0_:=Aside0.mk (blk_below (g:=gb315) (o:=.cells #[.string a0_0, .slice A0_1 l0_1.length c0_1, .bool false, .string a0_3] 24 (0,0)) (by (with_reducible repeat (first|refine blk_drewN ?_ _|refine blk_drew ?_|refine blk_alloc ?_ _));exact BK315.out) hb);have n1_:=Aside0.mk (below_step (by repeat (first|(with_reducible first|exact HB.out|apply below_alloc|apply pw_below_drewN|apply below_drew1|refine below_set ?_ GE315.out)|exact HB.out)) hb);clear BK315;clear HB;have BK315:=n0_;have HB:=n1_;clear n0_ n1_;(try clear hb);(try clear hb2);(try clear hk);(try clear hi);have hcz14_0:w13.cell? ⟨gb315,0,none⟩ = some (.string a0_0):=(blk_cell BK315.out 0).trans rfl;have hcz14_1:w13.cell? ⟨gb315,1,none⟩ = some (.slice A0_1 l0_1.length c0_1):=(blk_cell BK315.out 1).trans rfl;have hcz14_2:w13.cell? ⟨gb315,2,none⟩ = some (.bool false):=(blk_cell BK315.out 2).trans rfl;have hcz14_3:w13.cell? ⟨gb315,3,none⟩ = some (.string a0_3):=(blk_cell BK315.out 3).trans rfl;have hfz14_0:=blk_frozen BK315.out 0;have hfz14_1:=blk_frozen BK315.out 1;have hfz14_2:=blk_frozen BK315.out 2;have hfz14_3:=blk_frozen BK315.out 3))
   go_ret
   exact ⟨by first|rfl|(simp <;> rfl)|(simp [*] <;> rfl),by repeat (first|(with_reducible first|exact HB.out|apply below_alloc|apply pw_below_drewN|apply below_drew1|refine below_set ?_ GE315.out)|exact HB.out)⟩
 ·rw [if_neg c3] at H
  exact absurd H (by simp)

end Go.Proofs.YtochmlkladpfgaaDoor.P
