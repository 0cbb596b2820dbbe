-- Written by a program of this session (patch_print.py over the kit's print; given texts in wip/given).
import Derived.Test.YtochmlkladpfgaaDoorPx0
import Derived.Test.YtochmlkladpfgaaDoorPx8
import Derived.Test.YtochmlkladpfgaaDoorPx9
import Derived.Test.YtochmlkladpfgaaDoorPx10
import Derived.Test.YtochmlkladpfgaaDoorPx11
namespace Go.Proofs.YtochmlkladpfgaaDoor.P
open Go.RowKit Go.Proofs.YtochmlkladpfgaaDoorW.PrintWords Go.Proofs.YtochmlkladpfgaaDoorW.PrintLast Go.Proofs.YtochmlkladpfgaaDoorW.PrintMore
attribute [local go_sem] max2_int min2_int max_two min_two max_three min_three max_four min_four   -- for this text's walks alone
set_option linter.unusedVariables false
set_option linter.unusedSimpArgs false
set_option maxHeartbeats 8000000
set_option maxRecDepth 100000

/-! ### spec_l1Way: function 38 -/
def spec_l1Way.l0:Nat → ByteArray → Bool → List ByteArray → List ByteArray → Int → ByteArray → List ByteArray → Bool → ByteArray → Option (ByteArray × List ByteArray × Bool × ByteArray × Bool)
 | 0,_,_,_,_,_,_,_,_,_=>none
 | k + 1,x6,x7,x8,x9,x10,x279000,x279001,x279002,x279003=>if x10 < (x9.length:Int) then (if 0 ≤ x10 then ((spec_EscNorm.f k (rdOf ByteArray.empty x9 x10)).bind fun bt293=>(if bt293.2 = true then (if x8.length < 8796093022208 then (spec_l1Way.l0 k x6 x7 (x8 ++ [bt293.1]) x9 (wrap64 (x10 + 1)) x279000 x279001 x279002 x279003) else (none)) else (some ((⟨#[]⟩:ByteArray),([]:List ByteArray),false,(⟨#[]⟩:ByteArray),false)))) else (none)) else ((spec_EscNorm.f k x6).bind fun bt298=>((spec_PathClean.f k x8).bind fun t300=>(if bt298.2 = true then ((spec_AddrOk.f k x279000 t300 x7 bt298.1).bind fun t304=>(if t304 = true then (some (x279000,t300,x7,bt298.1,true)) else (some ((⟨#[]⟩:ByteArray),([]:List ByteArray),false,(⟨#[]⟩:ByteArray),false)))) else (some ((⟨#[]⟩:ByteArray),([]:List ByteArray),false,(⟨#[]⟩:ByteArray),false)))))
def spec_l1Way.f (k:Nat) (a0_0:ByteArray) (l0_1:List ByteArray) (a0_2:Bool) (a0_3:ByteArray) (a1:ByteArray):Option (ByteArray × List ByteArray × Bool × ByteArray × Bool):=(spec_l1Cut.f k a1 63).bind fun bt280=>((some (([]:List ByteArray):List ByteArray)).bind fun y283=>(if y283.length + l0_1.length < 8796093022208 then ((spec_l1Split.f k bt280.1 47).bind fun t289=>(spec_l1Way.l0 k bt280.2.1 bt280.2.2 (y283 ++ l0_1) t289 0 a0_0 l0_1 a0_2 a0_3)) else (none)))
theorem spec_l1Way.mono_l:∀ k,(∀ y0 y1 y2 y3 y4 y5 y6 y7 y8,LeO (spec_l1Way.l0 k y0 y1 y2 y3 y4 y5 y6 y7 y8) (spec_l1Way.l0 (k + 1) y0 y1 y2 y3 y4 y5 y6 y7 y8))
 | 0=>fun _ _ _ _ _ _ _ _ _ r h=>by simp [spec_l1Way.l0] at h
 | k + 1=>by
  have ih0:=spec_l1Way.mono_l k
  ·intro y0 y1 y2 y3 y4 y5 y6 y7 y8
   unfold spec_l1Way.l0
   repeat' first
   | (with_reducible exact ih0 _ _ _ _ _ _ _ _ _)
   | (with_reducible exact spec_AddrOk.mono _ _ _ _ _)
   | (with_reducible exact spec_EscNorm.mono _ _)
   | (with_reducible exact spec_PathClean.mono _ _)
   | (with_reducible exact spec_l1Cut.mono _ _ _)
   | (with_reducible exact spec_l1Split.mono _ _ _)
   | (with_reducible exact LeO.refl _)
   | (with_reducible exact LeO.none _)
   | (with_reducible refine LeO.ite ?_ ?_)
   | (with_reducible refine LeO.bind ?_ (fun _=>?_))
   | exact ih0 _ _ _ _ _ _ _ _ _
   | exact spec_AddrOk.mono _ _ _ _ _
   | exact spec_EscNorm.mono _ _
   | exact spec_PathClean.mono _ _
   | exact spec_l1Cut.mono _ _ _
   | exact spec_l1Split.mono _ _ _
   | exact LeO.none _
   | refine LeO.ite ?_ ?_
   | refine LeO.bind ?_ (fun _=>?_)
theorem spec_l1Way.mono:∀ a0 a1 a2 a3 a4 k,LeO (spec_l1Way.f k a0 a1 a2 a3 a4) (spec_l1Way.f (k + 1) a0 a1 a2 a3 a4):=by
 intro a0 a1 a2 a3 a4 k
 have ih0:=spec_l1Way.mono_l k
 unfold spec_l1Way.f
 repeat' first
   | (with_reducible exact ih0 _ _ _ _ _ _ _ _ _)
   | (with_reducible exact spec_AddrOk.mono _ _ _ _ _)
   | (with_reducible exact spec_EscNorm.mono _ _)
   | (with_reducible exact spec_PathClean.mono _ _)
   | (with_reducible exact spec_l1Cut.mono _ _ _)
   | (with_reducible exact spec_l1Split.mono _ _ _)
   | (with_reducible exact LeO.refl _)
   | (with_reducible exact LeO.none _)
   | (with_reducible refine LeO.ite ?_ ?_)
   | (with_reducible refine LeO.bind ?_ (fun _=>?_))
   | exact ih0 _ _ _ _ _ _ _ _ _
   | exact spec_AddrOk.mono _ _ _ _ _
   | exact spec_EscNorm.mono _ _
   | exact spec_PathClean.mono _ _
   | exact spec_l1Cut.mono _ _ _
   | exact spec_l1Split.mono _ _ _
   | exact LeO.none _
   | refine LeO.ite ?_ ?_
   | refine LeO.bind ?_ (fun _=>?_)
def spec_l1Way.T12:Bool × List (List Nat × List Nat):=(true,[([],[]),([0],[0]),([],[]),([2],[2]),([],[]),([],[]),([1,3,4,5],[1,3,4,5]),([],[]),([7,6,3,0,1,2,3,4,5,6,7],[6,7])])
def spec_l1Way.B12:List Nat:=[0,1,0,4,0,0,63,0,255]
theorem spec_l1Way.tab12:rtab .any (opsOf Tryd.f38 12) = spec_l1Way.T12:=by kernel_rfl
theorem spec_l1Way.bits12:waitsOk spec_l1Way.T12.2 spec_l1Way.B12 = true:=by kernel_rfl
theorem spec_l1Way.calls (k:Nat) (a0_0:ByteArray) (A0_1:Option Addr) (c0_1:Nat) (l0_1:List ByteArray) (a0_2:Bool) (a0_3:ByteArray) (a1:ByteArray) (r1:ByteArray) (r2:List ByteArray) (r3:Bool) (r4:ByteArray) (r5:Bool) (w:World) (hr0_1:Kd.C Kd.string w A0_1 l0_1.length l0_1) (hc0_1:l0_1.length ≤ c0_1) (h:spec_l1Way.f k a0_0 l0_1 a0_2 a0_3 a1 = some (r1,r2,r3,r4,r5)) :
  Calls Tryd.prog 38 #[.agg #[.string a0_0,.slice A0_1 l0_1.length c0_1,.bool a0_2,.string a0_3],.string a1] w fun e w'=>∃ v1_:Value,e = .returned (.tuple #[.agg #[.string r1,v1_,.bool r3,.string r4],.bool r5]) ∧ Kd.R Kd.string 9 w' w.heap.size (fun _=>True) v1_ r2 ∧ Below w.heap.size w w':=by
 have hu24:=Tryd.underlying24
 have HR0_1:=Aside0.mk hr0_1
 have HC0_1:=Aside0.mk hc0_1
 clear hr0_1 hc0_1
 have HB:=Aside0.mk (Below.refl w.heap.size w)
 have H:((spec_l1Cut.f k a1 63).bind fun bt280=>((some (([]:List ByteArray):List ByteArray)).bind fun y283=>(if y283.length + l0_1.length < 8796093022208 then ((spec_l1Split.f k bt280.1 47).bind fun t289=>(spec_l1Way.l0 k bt280.2.1 bt280.2.2 (y283 ++ l0_1) t289 0 a0_0 l0_1 a0_2 a0_3)) else (none)))) = some (r1,r2,r3,r4,r5):=h
 clear h
 replace H:=Option.bind_eq_some_iff.mp H
 obtain ⟨⟨t280,t281,t282⟩,A30,H⟩:=H
 replace H:((some (([]:List ByteArray):List ByteArray)).bind fun y283=>(if y283.length + l0_1.length < 8796093022208 then ((spec_l1Split.f k t280 47).bind fun t289=>(spec_l1Way.l0 k t281 t282 (y283 ++ l0_1) t289 0 a0_0 l0_1 a0_2 a0_3)) else (none))) = some (r1,r2,r3,r4,r5):=H
 have A3:=Aside0.mk A30
 clear A30
 obtain ⟨y283,hy283⟩:∃ y_:List ByteArray,y_ = (([]:List ByteArray)):=⟨_,rfl⟩
 replace H:(if y283.length + l0_1.length < 8796093022208 then ((spec_l1Split.f k t280 47).bind fun t289=>(spec_l1Way.l0 k t281 t282 (y283 ++ l0_1) t289 0 a0_0 l0_1 a0_2 a0_3)) else (none)) = some (r1,r2,r3,r4,r5):=by first|(rw [hy283];with_reducible exact H)|(have H2_:=(Option.bind_some _ _).symm.trans H;rw [hy283];with_reducible exact H2_)|(have H2_:=(Option.bind_some _ _).symm.trans H;with_reducible exact H2_)|with_reducible exact H|(rw [hy283];exact H)|exact H
 have Ny283:=Aside0.mk hy283
 clear hy283
 by_cases c4:y283.length + l0_1.length < 8796093022208
 ·rw [if_pos c4] at H
  have LMc4:=Aside0.mk c4
  clear c4
  obtain ⟨y286,hy286⟩:∃ y_:List ByteArray,y_ = (y283 ++ l0_1):=⟨_,rfl⟩
  replace H:((spec_l1Split.f k t280 47).bind fun t289=>(spec_l1Way.l0 k t281 t282 y286 t289 0 a0_0 l0_1 a0_2 a0_3)) = some (r1,r2,r3,r4,r5):=by first|(rw [hy286];with_reducible exact H)|(have H2_:=(Option.bind_some _ _).symm.trans H;rw [hy286];with_reducible exact H2_)|(have H2_:=(Option.bind_some _ _).symm.trans H;with_reducible exact H2_)|with_reducible exact H|(rw [hy286];exact H)|exact H
  have Ny286:=Aside0.mk hy286
  clear hy286
  replace H:=Option.bind_eq_some_iff.mp H
  obtain ⟨t289,A50,H⟩:=H
  replace H:(spec_l1Way.l0 k t281 t282 y286 t289 0 a0_0 l0_1 a0_2 a0_3) = some (r1,r2,r3,r4,r5):=H
  have A5:=Aside0.mk A50
  clear A50
  have H':=Aside0.mk H
  clear H
  go_enter Tryd.func38,Tryd.ntmps38
  go_wp2_with (first|((with_reducible refine gate_dst (N:=2) rfl ?_);refine box_event ?hg (N:=2) ?hd (cs:=#[.string a0_0,.slice A0_1 l0_1.length c0_1,.bool a0_2,.string a0_3]) (t:=24) ?hr ?_;(case hd=>rfl);(case hg=>rfl);(case hr=>first|(go_simp;done)|(go_simp;rfl));intro gb278 hg w6 hbox hb;have n0_:=Aside0.mk (below_step (by repeat (first|(with_reducible first|exact HB.out|apply below_alloc|apply pw_below_drewN|apply below_drew1)|exact HB.out)) hb);have n1_:=Aside0.mk (hbox);have n2_:=Aside0.mk ((by rw [hg];exact (below_size (by repeat (first|(with_reducible first|exact HB.out|apply below_alloc|apply pw_below_drewN|apply below_drew1)|exact HB.out))):w.heap.size ≤ gb278));have n3_:=n2_;clear HB;have HB:=n0_;have BK278:=n1_;have GW278:=n2_;have GE278:=n3_;clear n0_ n1_ n2_ n3_;clear hb hbox hg)|((with_reducible refine gate_dst (N:=4) rfl ?_);refine box_event ?hg (N:=4) ?hd (cs:=#[.string (⟨#[]⟩:ByteArray),.slice none 0 0,.bool false,.string (⟨#[]⟩:ByteArray)]) (t:=24) ?hr ?_;(case hd=>rfl);(case hg=>rfl);(case hr=>first|(go_simp;done)|(go_simp;rfl));intro gb279 hg w7 hbox hb;have n0_:=Aside0.mk (blk_below (g:=gb278) (o:=.cells #[.string a0_0,.slice A0_1 l0_1.length c0_1,.bool a0_2,.string a0_3] 24 (0,0)) (by (with_reducible repeat (first|refine blk_drewN ?_ _|refine blk_drew ?_|refine blk_alloc ?_ _));exact BK278.out) hb);have n1_:=Aside0.mk (below_step (by repeat (first|(with_reducible first|exact HB.out|apply below_alloc|apply pw_below_drewN|apply below_drew1|refine below_set ?_ GE278.out)|exact HB.out)) hb);have n2_:=Aside0.mk (hbox);have n3_:=Aside0.mk ((by rw [hg];exact (below_size (by repeat (first|(with_reducible first|exact HB.out|apply below_alloc|apply pw_below_drewN|apply below_drew1|refine below_set ?_ GE278.out)|exact HB.out))):w.heap.size ≤ gb279));have n4_:=n3_;have n5_:=Aside0.mk ((by rw [hg];exact Nat.ne_of_lt (blk_lt (g:=gb278) (o:=.cells #[.string a0_0,.slice A0_1 l0_1.length c0_1,.bool a0_2,.string a0_3] 24 (0,0)) (by (with_reducible repeat (first|refine blk_drewN ?_ _|refine blk_drew ?_|refine blk_alloc ?_ _));exact BK278.out)):gb278 ≠ gb279));have n6_:=Aside0.mk ((by rw [hg];exact Nat.ne_of_gt (blk_lt (g:=gb278) (o:=.cells #[.string a0_0,.slice A0_1 l0_1.length c0_1,.bool a0_2,.string a0_3] 24 (0,0)) (by (with_reducible repeat (first|refine blk_drewN ?_ _|refine blk_drew ?_|refine blk_alloc ?_ _));exact BK278.out)):gb279 ≠ gb278));clear BK278;clear HB;have BK278:=n0_;have HB:=n1_;have BK279:=n2_;have GW279:=n3_;have GE279:=n4_;have NB278_279:=n5_;have NB279_278:=n6_;clear n0_ n1_ n2_ n3_ n4_ n5_ n6_;clear hb hbox hg)|((with_reducible refine gate_callee (f:=19) rfl ?_);refine goesL_ (some 18) rfl rfl Tryd.func19 (by kernel_rfl) rfl #[.string a1,.int .u8 63] rfl (by (try simp only [List.map_toArray,List.map_cons,List.map_nil]);first|done|rfl|(simp only [List.length_drop,List.length_take];rfl)) ?_;(with_reducible refine (spec_l1Cut.calls k a1 63 t280 t281 t282 _ A3.out).mono ?_);rintro e w' ⟨rfl,⟨nd,rfl⟩⟩;refine ⟨_,rfl,?_⟩)|((with_reducible refine gate_dst (N:=22) rfl ?_);refine Kd.R_lit Kd.string _ 9 ?hg (N:=22) ?hd (xs:=([]:List ByteArray)) (inner:=[]) (ok:=fun _=>True) (okp:=fun _=>True) ?hr ?hp (fun _ hk=>hk) trivial (Below.refl _ _) (Nat.le_refl _) (by simp) ?_;(case hd=>rfl);(case hg=>rfl);(case hr=>first|(go_simp;done)|(go_simp;rfl));(case hp=>exact (Reps.none _ _));intro v284 w8 ho9 hb hg_ hnew_;clear hg_ hnew_;(first|rw [← Ny283.out] at ho9|(simp only [Int.reduceToNat] at ho9;rw [← Ny283.out] at ho9));have n0_:=Aside0.mk (Kd.R_lower ho9 (below_size (by repeat (first|(with_reducible first|exact HB.out|apply below_alloc|apply pw_below_drewN|apply below_drew1|refine below_set ?_ GE278.out|refine below_set ?_ GE279.out)|exact HB.out))));have n1_:=Aside0.mk (blk_below (g:=gb278) (o:=.cells #[.string a0_0,.slice A0_1 l0_1.length c0_1,.bool a0_2,.string a0_3] 24 (0,0)) (by (with_reducible repeat (first|refine blk_drewN ?_ _|refine blk_drew ?_|refine blk_alloc ?_ _));exact BK278.out) hb);have n2_:=Aside0.mk (blk_below (g:=gb279) (o:=.cells #[.string (⟨#[]⟩:ByteArray),.slice none 0 0,.bool false,.string (⟨#[]⟩:ByteArray)] 24 (0,0)) (by (with_reducible repeat (first|refine blk_drewN ?_ _|refine blk_drew ?_|refine blk_alloc ?_ _));exact BK279.out) hb);have n3_:=Aside0.mk (below_step (by repeat (first|(with_reducible first|exact HB.out|apply below_alloc|apply pw_below_drewN|apply below_drew1|refine below_set ?_ GE278.out|refine below_set ?_ GE279.out)|exact HB.out)) hb);clear BK278;clear BK279;clear HB;have HO285:=n0_;have BK278:=n1_;have BK279:=n2_;have HB:=n3_;clear n0_ n1_ n2_ n3_;clear hb ho9;have hnb10:=NB278_279.out;have hnc10:=NB279_278.out;have hcz11_0:w8.cell? ⟨gb278,0,none⟩ = some (.string a0_0):=(blk_cell BK278.out 0).trans rfl;have hcz11_1:w8.cell? ⟨gb278,1,none⟩ = some (.slice A0_1 l0_1.length c0_1):=(blk_cell BK278.out 1).trans rfl;have hcz11_2:w8.cell? ⟨gb278,2,none⟩ = some (.bool a0_2):=(blk_cell BK278.out 2).trans rfl;have hcz11_3:w8.cell? ⟨gb278,3,none⟩ = some (.string a0_3):=(blk_cell BK278.out 3).trans rfl;have hfz11_0:=blk_frozen BK278.out 0;have hfz11_1:=blk_frozen BK278.out 1;have hfz11_2:=blk_frozen BK278.out 2;have hfz11_3:=blk_frozen BK278.out 3)|((with_reducible refine gate_builtin (b:=.append) (xs:=#[.tmp 22,.tmp 24]) rfl ?_);at_builtin;refine Kd.R_append_rows Kd.string (w0:=w) w.heap.size rfl (.tmp 22) (.tmp 24) 22 9 (.string ⟨#[]⟩) 16 rfl Tryd.underlying22 info9 rfl (by decide) (by omega) v284 y283 l0_1 _ _ _ (fun _=>True) (fun _=>False) rfl rfl ?aO ?aR (fun _ _ h=>h) (fun _ h=>h.elim) ?aF ?aB ?aS ?aL ?_;(case aR=>repeat (first|exact (Kd.C_below HR0_1.out HB.out)|(with_reducible refine Kd.C_alloc ?_ _)|(with_reducible refine Kd.C_drewN ?_ _)|(with_reducible refine Kd.C_drew ?_)));(case aB=>exact (by repeat (first|(with_reducible first|exact HB.out|apply below_alloc|apply pw_below_drewN|apply below_drew1|refine below_set ?_ GE278.out|refine below_set ?_ GE279.out)|exact HB.out)));(case aF=>exact (fun _ _=>trivial));(case aO=>exact (by (with_reducible repeat (first|apply Kd.R_alloc|apply Kd.R_drewN|apply Kd.R_drew));exact HO285.out));(case aS=>exact (below_size (by repeat (first|(with_reducible first|exact HB.out|apply below_alloc|apply pw_below_drewN|apply below_drew1|refine below_set ?_ GE278.out|refine below_set ?_ GE279.out)|exact HB.out))));(case aL=>have:=LMc4.out;omega);intro v287 w12 ho hb hg hat;rw [← Ny286.out] at ho;have n0_:=Aside0.mk (blk_grown (g:=gb278) (o:=.cells #[.string a0_0,.slice A0_1 l0_1.length c0_1,.bool a0_2,.string a0_3] 24 (0,0)) (by (with_reducible repeat (first|refine blk_drewN ?_ _|refine blk_drew ?_|refine blk_alloc ?_ _));exact BK278.out) hg (Kd.R_ne HO285.out BK278.out (by decide)));have n1_:=Aside0.mk (blk_grown (g:=gb279) (o:=.cells #[.string (⟨#[]⟩:ByteArray),.slice none 0 0,.bool false,.string (⟨#[]⟩:ByteArray)] 24 (0,0)) (by (with_reducible repeat (first|refine blk_drewN ?_ _|refine blk_drew ?_|refine blk_alloc ?_ _));exact BK279.out) hg (Kd.R_ne HO285.out BK279.out (by decide)));have n2_:=Aside0.mk (hb);have n3_:=Aside0.mk (ho);clear BK278;clear BK279;clear HB;clear HO285;have BK278:=n0_;have BK279:=n1_;have HB:=n2_;have HO288:=n3_;clear n0_ n1_ n2_ n3_;clear ho hb hg hat)|((with_reducible refine gate_callee (f:=53) rfl ?_);refine goesL_ (some 27) rfl rfl Tryd.func53 (by kernel_rfl) rfl #[.string t280,.int .u8 47] rfl (by (try simp only [List.map_toArray,List.map_cons,List.map_nil]);first|done|rfl|(simp only [List.length_drop,List.length_take];rfl)) ?_;(with_reducible refine (spec_l1Split.calls k t280 47 t289 _ A5.out).mono ?_);rintro e w13 ⟨v290,rfl,ho0,hb⟩;refine ⟨_,rfl,?_⟩;have n0_:=Aside0.mk (Kd.R_elder' (by (with_reducible repeat (first|apply Kd.R_alloc|apply Kd.R_drewN|apply Kd.R_drew));exact HO288.out) (Kd.R_base ho0) hb);have n1_:=Aside0.mk (Kd.R_lower (Kd.R_new' ho0 (Kd.R_lt (by (with_reducible repeat (first|apply Kd.R_alloc|apply Kd.R_drewN|apply Kd.R_drew));exact HO288.out))) (below_size (by repeat (first|(with_reducible first|exact HB.out|apply below_alloc|apply pw_below_drewN|apply below_drew1|refine below_set ?_ GE278.out|refine below_set ?_ GE279.out)|exact HB.out))));have n2_:=Aside0.mk (blk_below (g:=gb278) (o:=.cells #[.string a0_0,.slice A0_1 l0_1.length c0_1,.bool a0_2,.string a0_3] 24 (0,0)) (by (with_reducible repeat (first|refine blk_drewN ?_ _|refine blk_drew ?_|refine blk_alloc ?_ _));exact BK278.out) hb);have n3_:=Aside0.mk (blk_below (g:=gb279) (o:=.cells #[.string (⟨#[]⟩:ByteArray),.slice none 0 0,.bool false,.string (⟨#[]⟩:ByteArray)] 24 (0,0)) (by (with_reducible repeat (first|refine blk_drewN ?_ _|refine blk_drew ?_|refine blk_alloc ?_ _));exact BK279.out) hb);have n4_:=Aside0.mk (below_step (by repeat (first|(with_reducible first|exact HB.out|apply below_alloc|apply pw_below_drewN|apply below_drew1|refine below_set ?_ GE278.out|refine below_set ?_ GE279.out)|exact HB.out)) hb);clear HO288;clear BK278;clear BK279;clear HB;have HO288:=n0_;have HO291:=n1_;have BK278:=n2_;have BK279:=n3_;have HB:=n4_;clear n0_ n1_ n2_ n3_ n4_;(try clear hb);(try clear hb2);(try clear hk);(try clear hi);(try clear ho0)))
  go_loopg [8,10] k (fun kq v8 v10 w'=>∃ (x8_1:List ByteArray) (x10_1:Int) (x280000_1:ByteArray) (x280002_1:Bool) (x280003_1:ByteArray),v10 = .int .i64 x10_1 ∧ Aside0 (spec_l1Way.l0 kq t281 t282 x8_1 t289 x10_1 a0_0 l0_1 a0_2 a0_3 = some (r1,r2,r3,r4,r5)) ∧ Aside0 (kq ≤ k) ∧ Aside0 (Kd.R Kd.string 9 w' w.heap.size (fun k_=>some k_ ≠ (v290:Value).ownBlock) v8 x8_1) ∧ Aside0 (Kd.R Kd.string 9 w' w.heap.size (fun k_=>some k_ ≠ (v8:Value).ownBlock) v290 t289) ∧ Aside0 (w'.heap[gb278]? = some (.cells #[.string a0_0,(.slice A0_1 l0_1.length c0_1),.bool a0_2,.string a0_3] 24 (0,0))) ∧ Aside0 (w'.heap[gb279]? = some (.cells #[.string x280000_1,(.slice none 0 0),.bool x280002_1,.string x280003_1] 24 (0,0))) ∧ Aside0 (Below w.heap.size w w'))
  case atStart=>exact ⟨(y286),(0),((⟨#[]⟩:ByteArray)),(false),((⟨#[]⟩:ByteArray)),(by first|rfl|(simp;done)|(simp only [i64_w,i32_w];done)|(simp only [i64_w,i32_w];rfl)|(simp [*];done)|(simp [emp_bne,emp_beq];done)),H',⟨Nat.le_refl _⟩,⟨by (with_reducible repeat (first|apply Kd.R_alloc|apply Kd.R_drewN|apply Kd.R_drew));exact Kd.R_mono HO288.out (fun _ hk=>hk.2)⟩,⟨by (with_reducible repeat (first|apply Kd.R_alloc|apply Kd.R_drewN|apply Kd.R_drew));exact Kd.R_mono HO291.out (fun _ hk=>hk.2)⟩,⟨by (with_reducible repeat (first|refine blk_drewN ?_ _|refine blk_drew ?_|refine blk_alloc ?_ _));exact BK278.out⟩,⟨by (with_reducible repeat (first|refine blk_drewN ?_ _|refine blk_drew ?_|refine blk_alloc ?_ _));exact BK279.out⟩,⟨by repeat (first|(with_reducible first|exact HB.out|apply below_alloc|apply pw_below_drewN|apply below_drew1|refine below_set ?_ GE278.out|refine below_set ?_ GE279.out)|exact HB.out)⟩⟩
  case round =>
   clear H'
   try clear c1
   try clear p2
   try clear c3
   try clear c4
   try clear c5
   try clear c10
   try clear hcz11_0
   try clear hcz11_1
   try clear hcz11_2
   try clear hcz11_3
   try clear hfz11_0
   try clear hfz11_1
   try clear hfz11_2
   try clear hfz11_3
   obtain ⟨x8_1,x10_1,x280000_1,x280002_1,x280003_1,rfl,HA,HK1,HO_8,HO_9,BK278,BK279,HB⟩:=hrel
   cases gk with
   | zero=>exact absurd HA.out (by simp [spec_l1Way.l0])
   | succ k1 =>
    have H:=HA.out
    clear HA
    simp only [spec_l1Way.l0] at H
    by_cases c14:x10_1 < (t289.length:Int)
    ·rw [if_pos c14] at H
     have c14b0:decide (x10_1 < (t289.length:Int)) = true:=decide_eq_true c14
     clear c14
     by_cases c15:0 ≤ x10_1
     ·rw [if_pos c15] at H
      have c15b0:decide (0 ≤ x10_1) = true:=decide_eq_true c15
      clear c15
      replace H:=Option.bind_eq_some_iff.mp H
      obtain ⟨⟨t293,t294⟩,A160,H⟩:=H
      replace H:(if t294 = true then (if x8_1.length < 8796093022208 then (spec_l1Way.l0 k1 t281 t282 (x8_1 ++ [t293]) t289 (wrap64 (x10_1 + 1)) a0_0 l0_1 a0_2 a0_3) else (none)) else (some ((⟨#[]⟩:ByteArray),([]:List ByteArray),false,(⟨#[]⟩:ByteArray),false))) = some (r1,r2,r3,r4,r5):=H
      have A16:=Aside0.mk A160
      clear A160
      by_cases c17:t294 = true
      ·subst c17
       have H1:(if x8_1.length < 8796093022208 then (spec_l1Way.l0 k1 t281 t282 (x8_1 ++ [t293]) t289 (wrap64 (x10_1 + 1)) a0_0 l0_1 a0_2 a0_3) else (none)) = some (r1,r2,r3,r4,r5):=by rw [if_pos rfl] at H;exact H
       clear H
       have H:=H1
       clear H1
       by_cases c18:x8_1.length < 8796093022208
       ·rw [if_pos c18] at H
        have LMc18:=Aside0.mk c18
        clear c18
        obtain ⟨y295,hy295⟩:∃ y_:List ByteArray,y_ = (x8_1 ++ [t293]):=⟨_,rfl⟩
        replace H:(spec_l1Way.l0 k1 t281 t282 y295 t289 (wrap64 (x10_1 + 1)) a0_0 l0_1 a0_2 a0_3) = some (r1,r2,r3,r4,r5):=by first|(rw [hy295];with_reducible exact H)|(have H2_:=(Option.bind_some _ _).symm.trans H;rw [hy295];with_reducible exact H2_)|(have H2_:=(Option.bind_some _ _).symm.trans H;with_reducible exact H2_)|with_reducible exact H|(rw [hy295];exact H)|exact H
        have Ny295:=Aside0.mk hy295
        clear hy295
        have H':=Aside0.mk H
        clear H
        obtain ⟨Ao19,co19,eo19⟩:=Kd.R_slice HO_9.out
        subst eo19
        have p292:0 ≤ (x10_1:Int):=of_decide_eq_true (by first|(with_reducible assumption)|assumption)
        have q292:x10_1 < (t289.length:Int):=of_decide_eq_true (by first|(with_reducible assumption)|assumption)
        obtain ⟨ad292,e292,hx292_0⟩:=Kd.at_string (Kd.R_reads' HO_9.out).2.2 x10_1 p292 q292
        cases e292
        replace p292:=eq_true p292
        replace q292:=eq_true q292
        go_wp2_with (first|((with_reducible refine gate_callee (f:=54) rfl ?_);refine goesL_ (some 39) rfl rfl Tryd.func54 (by kernel_rfl) rfl #[.string (rdOf ByteArray.empty t289 x10_1)] rfl (by (try simp only [List.map_toArray,List.map_cons,List.map_nil]);first|done|rfl|(simp only [List.length_drop,List.length_take];rfl)) ?_;(with_reducible refine (spec_EscNorm.calls k1 (rdOf ByteArray.empty t289 x10_1) t293 true _ A16.out).mono ?_);rintro e w20 ⟨rfl,hb⟩;refine ⟨_,rfl,?_⟩;have n0_:=Aside0.mk (Kd.R_below (by (with_reducible repeat (first|apply Kd.R_alloc|apply Kd.R_drewN|apply Kd.R_drew));exact HO_8.out) hb);have n1_:=Aside0.mk (Kd.R_below (by (with_reducible repeat (first|apply Kd.R_alloc|apply Kd.R_drewN|apply Kd.R_drew));exact HO_9.out) hb);have n2_:=Aside0.mk (blk_below (g:=gb278) (o:=.cells #[.string a0_0,.slice A0_1 l0_1.length c0_1,.bool a0_2,.string a0_3] 24 (0,0)) (by (with_reducible repeat (first|refine blk_drewN ?_ _|refine blk_drew ?_|refine blk_alloc ?_ _));exact BK278.out) hb);have n3_:=Aside0.mk (blk_below (g:=gb279) (o:=.cells #[.string x280000_1,.slice none 0 0,.bool x280002_1,.string x280003_1] 24 (0,0)) (by (with_reducible repeat (first|refine blk_drewN ?_ _|refine blk_drew ?_|refine blk_alloc ?_ _));exact BK279.out) hb);have n4_:=Aside0.mk (below_step (by repeat (first|(with_reducible first|exact HB.out|apply below_alloc|apply pw_below_drewN|apply below_drew1|refine below_set ?_ GE278.out|refine below_set ?_ GE279.out)|exact HB.out)) hb);clear HO_8;clear HO_9;clear BK278;clear BK279;clear HB;have HO_8:=n0_;have HO_9:=n1_;have BK278:=n2_;have BK279:=n3_;have HB:=n4_;clear n0_ n1_ n2_ n3_ n4_;(try clear hb);(try clear hb2);(try clear hk);(try clear hi))|((with_reducible refine gate_builtin (b:=.append) (xs:=#[.tmp 45,.tmp 47]) rfl ?_);at_builtin;refine Kd.R_append Kd.string (w0:=w) w.heap.size rfl (.tmp 45) (.tmp 47) 22 9 (.string ⟨#[]⟩) 16 rfl Tryd.underlying22 info9 rfl (by decide) (by omega) u8 x8_1 t293 [.string t293] (fun k_=>some k_ ≠ (.slice (some ad292) t289.length co19:Value).ownBlock) (fun _=>False) rfl rfl ?aP (fun _ hk=>hk.elim) ?aF ?aO ?aB ?aS ?aL ?_;(case aP=>exact rfl);(case aB=>exact (by repeat (first|(with_reducible first|exact HB.out|apply below_alloc|apply pw_below_drewN|apply below_drew1|refine below_set ?_ GE278.out|refine below_set ?_ GE279.out)|exact HB.out)));(case aF=>exact (fun k_ hk=>Kd.fresh' (Kd.R_lt (by (with_reducible repeat (first|apply Kd.R_alloc|apply Kd.R_drewN|apply Kd.R_drew));exact HO_9.out)) k_ hk));(case aO=>exact (by (with_reducible repeat (first|apply Kd.R_alloc|apply Kd.R_drewN|apply Kd.R_drew));exact HO_8.out));(case aS=>exact (below_size (by repeat (first|(with_reducible first|exact HB.out|apply below_alloc|apply pw_below_drewN|apply below_drew1|refine below_set ?_ GE278.out|refine below_set ?_ GE279.out)|exact HB.out))));(case aL=>have:=LMc18.out;omega);intro v296 w21 ho hb hg hat;rw [← Ny295.out] at ho;have n0_:=Aside0.mk (Kd.R_after (ok:=(fun _=>True)) (by (with_reducible repeat (first|apply Kd.R_alloc|apply Kd.R_drewN|apply Kd.R_drew));exact Kd.R_mono HO_9.out (fun _ hk=>⟨trivial,hk⟩)) hg hat);have n1_:=Aside0.mk (blk_grown (g:=gb278) (o:=.cells #[.string a0_0,.slice A0_1 l0_1.length c0_1,.bool a0_2,.string a0_3] 24 (0,0)) (by (with_reducible repeat (first|refine blk_drewN ?_ _|refine blk_drew ?_|refine blk_alloc ?_ _));exact BK278.out) hg (Kd.R_ne HO_8.out BK278.out (by decide)));have n2_:=Aside0.mk (blk_grown (g:=gb279) (o:=.cells #[.string x280000_1,.slice none 0 0,.bool x280002_1,.string x280003_1] 24 (0,0)) (by (with_reducible repeat (first|refine blk_drewN ?_ _|refine blk_drew ?_|refine blk_alloc ?_ _));exact BK279.out) hg (Kd.R_ne HO_8.out BK279.out (by decide)));have n3_:=Aside0.mk (hb);have n4_:=Aside0.mk (ho);clear HO_9;clear BK278;clear BK279;clear HB;clear HO_8;have HO_9:=n0_;have BK278:=n1_;have BK279:=n2_;have HB:=n3_;have HO297:=n4_;clear n0_ n1_ n2_ n3_ n4_;clear ho hb hg hat))
        go_roundg k1
        case measure=>have:=HK1.out;omega
        case rel=>exact ⟨(y295),(wrap64 (x10_1 + 1)),(x280000_1),(x280002_1),(x280003_1),(by first|rfl|(simp;done)|(simp only [i64_w,i32_w];done)|(simp only [i64_w,i32_w];rfl)|(simp [*];done)|(simp [emp_bne,emp_beq];done)),H',⟨by have:=HK1.out;omega⟩,⟨by (with_reducible repeat (first|apply Kd.R_alloc|apply Kd.R_drewN|apply Kd.R_drew));exact HO297.out⟩,⟨by (with_reducible repeat (first|apply Kd.R_alloc|apply Kd.R_drewN|apply Kd.R_drew));exact Kd.R_mono HO_9.out (fun _ hk=>hk.2)⟩,⟨by (with_reducible repeat (first|refine blk_drewN ?_ _|refine blk_drew ?_|refine blk_alloc ?_ _));exact BK278.out⟩,⟨by (with_reducible repeat (first|refine blk_drewN ?_ _|refine blk_drew ?_|refine blk_alloc ?_ _));exact BK279.out⟩,⟨by repeat (first|(with_reducible first|exact HB.out|apply below_alloc|apply pw_below_drewN|apply below_drew1|refine below_set ?_ GE278.out|refine below_set ?_ GE279.out)|exact HB.out)⟩⟩
       ·rw [if_neg c18] at H
        exact absurd H (by simp)
      ·replace c17:=Bool.eq_false_iff.mpr c17
       subst c17
       have H1:(some ((⟨#[]⟩:ByteArray),([]:List ByteArray),false,(⟨#[]⟩:ByteArray),false)) = some (r1,r2,r3,r4,r5):=by rw [if_neg (show ¬ (false = true) by decide)] at H;exact H
       clear H
       have H:=H1
       clear H1
       simp only [Option.some.injEq,Prod.mk.injEq] at H
       obtain ⟨rfl,rfl,rfl,rfl,rfl⟩:=H
       obtain ⟨Ao22,co22,eo22⟩:=Kd.R_slice HO_9.out
       subst eo22
       have p292:0 ≤ (x10_1:Int):=of_decide_eq_true (by first|(with_reducible assumption)|assumption)
       have q292:x10_1 < (t289.length:Int):=of_decide_eq_true (by first|(with_reducible assumption)|assumption)
       obtain ⟨ad292,e292,hx292_0⟩:=Kd.at_string (Kd.R_reads' HO_9.out).2.2 x10_1 p292 q292
       cases e292
       replace p292:=eq_true p292
       replace q292:=eq_true q292
       go_wp2_with (first|((with_reducible refine gate_callee (f:=54) rfl ?_);refine goesL_ (some 39) rfl rfl Tryd.func54 (by kernel_rfl) rfl #[.string (rdOf ByteArray.empty t289 x10_1)] rfl (by (try simp only [List.map_toArray,List.map_cons,List.map_nil]);first|done|rfl|(simp only [List.length_drop,List.length_take];rfl)) ?_;(with_reducible refine (spec_EscNorm.calls k1 (rdOf ByteArray.empty t289 x10_1) t293 false _ A16.out).mono ?_);rintro e w23 ⟨rfl,hb⟩;refine ⟨_,rfl,?_⟩;have n0_:=Aside0.mk (Kd.R_below (by (with_reducible repeat (first|apply Kd.R_alloc|apply Kd.R_drewN|apply Kd.R_drew));exact HO_8.out) hb);have n1_:=Aside0.mk (Kd.R_below (by (with_reducible repeat (first|apply Kd.R_alloc|apply Kd.R_drewN|apply Kd.R_drew));exact HO_9.out) hb);have n2_:=Aside0.mk (blk_below (g:=gb278) (o:=.cells #[.string a0_0,.slice A0_1 l0_1.length c0_1,.bool a0_2,.string a0_3] 24 (0,0)) (by (with_reducible repeat (first|refine blk_drewN ?_ _|refine blk_drew ?_|refine blk_alloc ?_ _));exact BK278.out) hb);have n3_:=Aside0.mk (blk_below (g:=gb279) (o:=.cells #[.string x280000_1,.slice none 0 0,.bool x280002_1,.string x280003_1] 24 (0,0)) (by (with_reducible repeat (first|refine blk_drewN ?_ _|refine blk_drew ?_|refine blk_alloc ?_ _));exact BK279.out) hb);have n4_:=Aside0.mk (below_step (by repeat (first|(with_reducible first|exact HB.out|apply below_alloc|apply pw_below_drewN|apply below_drew1|refine below_set ?_ GE278.out|refine below_set ?_ GE279.out)|exact HB.out)) hb);clear HO_8;clear HO_9;clear BK278;clear BK279;clear HB;have HO_8:=n0_;have HO_9:=n1_;have BK278:=n2_;have BK279:=n3_;have HB:=n4_;clear n0_ n1_ n2_ n3_ n4_;(try clear hb);(try clear hb2);(try clear hk);(try clear hi);have hnb24:=NB279_278.out;have hnc24:=NB278_279.out;have hcz25_0:w23.cell? ⟨gb279,0,none⟩ = some (.string x280000_1):=(blk_cell BK279.out 0).trans rfl;have hcz25_1:w23.cell? ⟨gb279,1,none⟩ = some (.slice none 0 0):=(blk_cell BK279.out 1).trans rfl;have hcz25_2:w23.cell? ⟨gb279,2,none⟩ = some (.bool x280002_1):=(blk_cell BK279.out 2).trans rfl;have hcz25_3:w23.cell? ⟨gb279,3,none⟩ = some (.string x280003_1):=(blk_cell BK279.out 3).trans rfl;have hfz25_0:=blk_frozen BK279.out 0;have hfz25_1:=blk_frozen BK279.out 1;have hfz25_2:=blk_frozen BK279.out 2;have hfz25_3:=blk_frozen BK279.out 3))
       refine bodyPost_ret (results_ct rfl _ _ gb279 24 #[.string (⟨#[]⟩:ByteArray),.slice none 0 0,.bool false,.string (⟨#[]⟩:ByteArray)] (0,0) _ rfl (by (with_reducible repeat (first|refine blk_drewN ?_ _|refine blk_drew ?_|refine blk_alloc ?_ _));refine blk_put (cs:=#[.string (⟨#[]⟩:ByteArray),.slice none 0 0,.bool false,.string x280003_1]) ?_ 3 _ rfl;(with_reducible repeat (first|refine blk_drewN ?_ _|refine blk_drew ?_|refine blk_alloc ?_ _));refine blk_put (cs:=#[.string (⟨#[]⟩:ByteArray),.slice none 0 0,.bool x280002_1,.string x280003_1]) ?_ 2 _ rfl;(with_reducible repeat (first|refine blk_drewN ?_ _|refine blk_drew ?_|refine blk_alloc ?_ _));refine blk_put (cs:=#[.string (⟨#[]⟩:ByteArray),.slice none 0 0,.bool x280002_1,.string x280003_1]) ?_ 1 _ rfl;(with_reducible repeat (first|refine blk_drewN ?_ _|refine blk_drew ?_|refine blk_alloc ?_ _));refine blk_put (cs:=#[.string x280000_1,.slice none 0 0,.bool x280002_1,.string x280003_1]) ?_ 0 _ rfl;(with_reducible repeat (first|refine blk_drewN ?_ _|refine blk_drew ?_|refine blk_alloc ?_ _));exact BK279.out) Tryd.underlying24 rfl (by kernel_rfl)) rfl ?_
       exact ⟨_,by first|rfl|(simp <;> rfl)|(simp [*] <;> rfl),by first|exact Kd.R_nil _ _ _ _ _|exact Kd.N_nil _ _ _ _ _|exact Kd.V_nil _ _ _ _ _|exact Kd.Q_nil _ _ _ _ _|exact Kd.S_nil _ _ _ _ _,by repeat (first|(with_reducible first|exact HB.out|apply below_alloc|apply pw_below_drewN|apply below_drew1|refine below_set ?_ GE278.out|refine below_set ?_ GE279.out)|exact HB.out)⟩
     ·rw [if_neg c15] at H
      exact absurd H (by simp)
    ·rw [if_neg c14] at H
     have c14b0:decide (x10_1 < (t289.length:Int)) = false:=decide_eq_false c14
     clear c14
     replace H:=Option.bind_eq_some_iff.mp H
     obtain ⟨⟨t298,t299⟩,A260,H⟩:=H
     replace H:((spec_PathClean.f k1 x8_1).bind fun t300=>(if t299 = true then ((spec_AddrOk.f k1 a0_0 t300 t282 t298).bind fun t304=>(if t304 = true then (some (a0_0,t300,t282,t298,true)) else (some ((⟨#[]⟩:ByteArray),([]:List ByteArray),false,(⟨#[]⟩:ByteArray),false)))) else (some ((⟨#[]⟩:ByteArray),([]:List ByteArray),false,(⟨#[]⟩:ByteArray),false)))) = some (r1,r2,r3,r4,r5):=H
     have A26:=Aside0.mk A260
     clear A260
     replace H:=Option.bind_eq_some_iff.mp H
     obtain ⟨t300,A270,H⟩:=H
     replace H:(if t299 = true then ((spec_AddrOk.f k1 a0_0 t300 t282 t298).bind fun t304=>(if t304 = true then (some (a0_0,t300,t282,t298,true)) else (some ((⟨#[]⟩:ByteArray),([]:List ByteArray),false,(⟨#[]⟩:ByteArray),false)))) else (some ((⟨#[]⟩:ByteArray),([]:List ByteArray),false,(⟨#[]⟩:ByteArray),false))) = some (r1,r2,r3,r4,r5):=H
     have A27:=Aside0.mk A270
     clear A270
     by_cases c28:t299 = true
     ·subst c28
      have H1:((spec_AddrOk.f k1 a0_0 t300 t282 t298).bind fun t304=>(if t304 = true then (some (a0_0,t300,t282,t298,true)) else (some ((⟨#[]⟩:ByteArray),([]:List ByteArray),false,(⟨#[]⟩:ByteArray),false)))) = some (r1,r2,r3,r4,r5):=by rw [if_pos rfl] at H;exact H
      clear H
      have H:=H1
      clear H1
      replace H:=Option.bind_eq_some_iff.mp H
      obtain ⟨t304,A290,H⟩:=H
      replace H:(if t304 = true then (some (a0_0,t300,t282,t298,true)) else (some ((⟨#[]⟩:ByteArray),([]:List ByteArray),false,(⟨#[]⟩:ByteArray),false))) = some (r1,r2,r3,r4,r5):=H
      have A29:=Aside0.mk A290
      clear A290
      by_cases c30:t304 = true
      ·subst c30
       have H1:(some (a0_0,t300,t282,t298,true)) = some (r1,r2,r3,r4,r5):=by rw [if_pos rfl] at H;exact H
       clear H
       have H:=H1
       clear H1
       simp only [Option.some.injEq,Prod.mk.injEq] at H
       obtain ⟨rfl,rfl,rfl,rfl,rfl⟩:=H
       obtain ⟨Ao31,co31,eo31⟩:=Kd.R_slice HO_9.out
       subst eo31
       try go_wp2_with (first|((with_reducible refine gate_callee (f:=54) rfl ?_);refine goesL_ (some 51) rfl rfl Tryd.func54 (by kernel_rfl) rfl #[.string t281] rfl (by (try simp only [List.map_toArray,List.map_cons,List.map_nil]);first|done|rfl|(simp only [List.length_drop,List.length_take];rfl)) ?_;(with_reducible refine (spec_EscNorm.calls k1 t281 t298 true _ A26.out).mono ?_);rintro e w32 ⟨rfl,hb⟩;refine ⟨_,rfl,?_⟩;have n0_:=Aside0.mk (Kd.R_below (by (with_reducible repeat (first|apply Kd.R_alloc|apply Kd.R_drewN|apply Kd.R_drew));exact HO_8.out) hb);have n1_:=Aside0.mk (Kd.R_below (by (with_reducible repeat (first|apply Kd.R_alloc|apply Kd.R_drewN|apply Kd.R_drew));exact HO_9.out) hb);have n2_:=Aside0.mk (blk_below (g:=gb278) (o:=.cells #[.string a0_0,.slice A0_1 l0_1.length c0_1,.bool a0_2,.string a0_3] 24 (0,0)) (by (with_reducible repeat (first|refine blk_drewN ?_ _|refine blk_drew ?_|refine blk_alloc ?_ _));exact BK278.out) hb);have n3_:=Aside0.mk (blk_below (g:=gb279) (o:=.cells #[.string x280000_1,.slice none 0 0,.bool x280002_1,.string x280003_1] 24 (0,0)) (by (with_reducible repeat (first|refine blk_drewN ?_ _|refine blk_drew ?_|refine blk_alloc ?_ _));exact BK279.out) hb);have n4_:=Aside0.mk (below_step (by repeat (first|(with_reducible first|exact HB.out|apply below_alloc|apply pw_below_drewN|apply below_drew1|refine below_set ?_ GE278.out|refine below_set ?_ GE279.out)|exact HB.out)) hb);clear HO_8;clear HO_9;clear BK278;clear BK279;clear HB;have HO_8:=n0_;have HO_9:=n1_;have BK278:=n2_;have BK279:=n3_;have HB:=n4_;clear n0_ n1_ n2_ n3_ n4_;(try clear hb);(try clear hb2);(try clear hk);(try clear hi);obtain ⟨Ao33,co33,eo33⟩:=Kd.R_slice HO_8.out;subst eo33))
       have n0_:=Aside0.mk (Kd.R_drew HO_8.out)
       have n1_:=Aside0.mk (Kd.R_drew HO_9.out)
       have n2_:=Aside0.mk (blk_drew BK278.out)
       have n3_:=Aside0.mk (blk_drew BK279.out)
       have n4_:=Aside0.mk (below_drew1 HB.out)
       clear HO_8
       clear HO_9
       clear BK278
       clear BK279
       clear HB
       have HO_8:=n0_
       have HO_9:=n1_
       have BK278:=n2_
       have BK279:=n3_
       have HB:=n4_
       clear n0_ n1_ n2_ n3_ n4_
       refine start_ (n:=9) (S:=fun w'=>w'.cell? ⟨gb278,0,none⟩ = some (.string a0_0) ∧ w'.cell? ⟨gb278,1,none⟩ = some (.slice A0_1 l0_1.length c0_1) ∧ w'.cell? ⟨gb278,2,none⟩ = some (.bool a0_2) ∧ w'.cell? ⟨gb278,3,none⟩ = some (.string a0_3)) (ds:=[]) #[false,false,false,false,false,false,false,false,false] (by kernel_rfl) rfl rfl ⟨(blk_cell BK278.out 0).trans rfl,(blk_cell BK278.out 1).trans rfl,(blk_cell BK278.out 2).trans rfl,(blk_cell BK278.out 3).trans rfl⟩ (fun hHeld=>?_);refine with_tabW spec_l1Way.tab12 spec_l1Way.bits12 (fun HT_ HW_=>?_)
       generalize w32.drew = w34 at HO_8 HO_9 BK278 BK279 HB hHeld ⊢
       refine pure_ (i:=0) (N:=some 54) (v:=?_) (a':=?_) #[true,false,false,false,false,false,false,false,false] rfl rfl (any_of HT_.out (by kernel_rfl)) (fun _ _ _ h=>h) (Or.inl ⟨by rfl,?_⟩) ?_ ?_
       rotate_left
       ·intro w'
        go_simp
        with_reducible rfl
       rotate_left
       ·simp only [Act.put,List.setIfInBounds_toArray,List.set_cons_zero,List.set_cons_succ,i64_w,i32_w]
        rfl
       refine pure_ (i:=2) (N:=some 56) (v:=?_) (a':=?_) #[true,false,true,false,false,false,false,false,false] rfl rfl (any_of HT_.out (by kernel_rfl)) (fun _ _ _ h=>h) (Or.inl ⟨by rfl,?_⟩) ?_ ?_
       rotate_left
       ·intro w'
        go_simp
        with_reducible rfl
       rotate_left
       ·simp only [Act.put,List.setIfInBounds_toArray,List.set_cons_zero,List.set_cons_succ,i64_w,i32_w]
        rfl
       refine pure_ (i:=4) (N:=some 58) (v:=?_) (a':=?_) #[true,false,true,false,true,false,false,false,false] rfl rfl (any_of HT_.out (by kernel_rfl)) (fun _ _ _ h=>h) (Or.inl ⟨by rfl,?_⟩) ?_ ?_
       rotate_left
       ·intro w'
        go_simp
        with_reducible rfl
       rotate_left
       ·simp only [Act.put,List.setIfInBounds_toArray,List.set_cons_zero,List.set_cons_succ,i64_w,i32_w]
        rfl
       refine pure_ (i:=5) (N:=some 59) (v:=?_) (a':=?_) #[true,false,true,false,true,true,false,false,false] rfl rfl (any_of HT_.out (by kernel_rfl)) (fun _ _ _ h=>h) (Or.inl ⟨by rfl,?_⟩) ?_ ?_
       rotate_left
       ·intro w'
        go_simp
        with_reducible rfl
       rotate_left
       ·simp only [Act.put,List.setIfInBounds_toArray,List.set_cons_zero,List.set_cons_succ,i64_w,i32_w]
        rfl
       refine take_ (i:=1) (N:=some 55) (v:=?_) (a':=?_) #[true,true,true,false,true,true,false,false,false] rfl rfl (take_ofW HT_.out HW_.out (by kernel_rfl)) (fun _ _ _ h=>h) (Or.inl ⟨by rfl,?_⟩) hHeld ?_ ?_
       rotate_left
       ·rintro w' ⟨s0,s1,s2,s3⟩
        go_simp
        with_reducible rfl
       rotate_left
       ·simp only [Act.put,List.setIfInBounds_toArray,List.set_cons_zero,List.set_cons_succ,i64_w,i32_w]
        rfl
       refine join_ (σ:=Value × Nat) 1 #[true,true,true,true,true,true,true,true,false] (fun s_=>[(57,s_.1),(15,.pointer (some ⟨s_.2,0,none⟩)),(60,.agg #[.string a0_0,s_.1,.bool t282,.string t298])]) (fun s_ w'=>(w'.cell? ⟨gb278,0,none⟩ = some (.string a0_0) ∧ w'.cell? ⟨gb278,1,none⟩ = some (.slice A0_1 l0_1.length c0_1) ∧ w'.cell? ⟨gb278,2,none⟩ = some (.bool a0_2) ∧ w'.cell? ⟨gb278,3,none⟩ = some (.string a0_3)) ∧ (Kd.R Kd.string 9 w' w.heap.size (fun k_=>some k_ ≠ (.slice Ao33 x8_1.length co33:Value).ownBlock ∧ some k_ ≠ (.slice Ao31 t289.length co31:Value).ownBlock) s_.1 t300) ∧ (Kd.R Kd.string 9 w' w.heap.size (fun k_=>some k_ ≠ (s_.1:Value).ownBlock ∧ some k_ ≠ (.slice Ao31 t289.length co31:Value).ownBlock) (.slice Ao33 x8_1.length co33) x8_1) ∧ (Kd.R Kd.string 9 w' w.heap.size (fun k_=>some k_ ≠ (s_.1:Value).ownBlock ∧ some k_ ≠ (.slice Ao33 x8_1.length co33:Value).ownBlock) (.slice Ao31 t289.length co31) t289) ∧ (w'.heap[gb278]? = some (.cells #[.string a0_0,.slice A0_1 l0_1.length c0_1,.bool a0_2,.string a0_3] 24 (0,0))) ∧ (w'.heap[gb279]? = some (.cells #[.string x280000_1,.slice none 0 0,.bool x280002_1,.string x280003_1] 24 (0,0))) ∧ (w'.heap[s_.2]? = some (.cells #[.string (⟨#[]⟩:ByteArray),.slice none 0 0,.bool false,.string (⟨#[]⟩:ByteArray)] 24 (0,0))) ∧ (w.heap.size ≤ s_.2) ∧ (w.heap.size ≤ s_.2) ∧ (gb278 ≠ s_.2) ∧ (s_.2 ≠ gb278) ∧ (gb279 ≠ s_.2) ∧ (s_.2 ≠ gb279) ∧ (Below w.heap.size w w')) ?_ ?_
       rotate_left
       ·intro hCont
        refine two_ (i:=3) (j:=7) (Ni:=some 57) (Nj:=some 15) #[true,true,true,true,true,true,false,false,false] #[true,true,true,false,true,true,false,true,false] rfl rfl rfl rfl (two_of HT_.out (by kernel_rfl)) (by decide) (by decide) (fun K hK=>?_) (fun K hK=>?_)
        ·skip
         refine goes_ Tryd.func55 (by kernel_rfl) rfl #[.slice Ao33 x8_1.length co33] (by rfl) rfl rfl (by (try simp only [List.map_toArray,List.map_cons,List.map_nil]);first|done|rfl|(simp only [List.length_drop,List.length_take];rfl)) ?_
         with_reducible refine (spec_PathClean.calls k1 _ _ x8_1 t300 _ ?side1 ?side2 A27.out).mono ?_
         (case side1=>repeat (first|exact (Kd.R_reads' HO_8.out).2.2|(with_reducible refine Kd.C_alloc ?_ _)|(with_reducible refine Kd.C_drewN ?_ _)|(with_reducible refine Kd.C_drew ?_)))
         (case side2=>exact (Kd.R_reads' HO_8.out).2.1)
         rintro e w35 ⟨v301,rfl,ho0,hb⟩
         refine ⟨_,rfl,?_⟩
         have n0_:=Aside0.mk (Kd.R_elder' (by (with_reducible repeat (first|apply Kd.R_alloc|apply Kd.R_drewN|apply Kd.R_drew));exact HO_8.out) (Kd.R_base ho0) hb)
         have n1_:=Aside0.mk (Kd.R_elder' (by (with_reducible repeat (first|apply Kd.R_alloc|apply Kd.R_drewN|apply Kd.R_drew));exact HO_9.out) (Kd.R_base ho0) hb)
         have n2_:=Aside0.mk (Kd.R_lower (Kd.R_new' (Kd.R_new' ho0 (Kd.R_lt (by (with_reducible repeat (first|apply Kd.R_alloc|apply Kd.R_drewN|apply Kd.R_drew));exact HO_8.out))) (Kd.R_lt (by (with_reducible repeat (first|apply Kd.R_alloc|apply Kd.R_drewN|apply Kd.R_drew));exact HO_9.out))) (below_size (by repeat (first|(with_reducible first|exact HB.out|apply below_alloc|apply pw_below_drewN|apply below_drew1|refine below_set ?_ GE278.out|refine below_set ?_ GE279.out)|exact HB.out))))
         have n3_:=Aside0.mk (blk_below (g:=gb278) (o:=.cells #[.string a0_0,.slice A0_1 l0_1.length c0_1,.bool a0_2,.string a0_3] 24 (0,0)) (by (with_reducible repeat (first|refine blk_drewN ?_ _|refine blk_drew ?_|refine blk_alloc ?_ _));exact BK278.out) hb)
         have n4_:=Aside0.mk (blk_below (g:=gb279) (o:=.cells #[.string x280000_1,.slice none 0 0,.bool x280002_1,.string x280003_1] 24 (0,0)) (by (with_reducible repeat (first|refine blk_drewN ?_ _|refine blk_drew ?_|refine blk_alloc ?_ _));exact BK279.out) hb)
         have n5_:=Aside0.mk (below_step (by repeat (first|(with_reducible first|exact HB.out|apply below_alloc|apply pw_below_drewN|apply below_drew1|refine below_set ?_ GE278.out|refine below_set ?_ GE279.out)|exact HB.out)) hb)
         clear HO_8
         clear HO_9
         clear BK278
         clear BK279
         clear HB
         have HO_8:=n0_
         have HO_9:=n1_
         have HO302:=n2_
         have BK278:=n3_
         have BK279:=n4_
         have HB:=n5_
         clear n0_ n1_ n2_ n3_ n4_ n5_
         (try clear hb)
         (try clear hb2)
         (try clear hk)
         (try clear hi)
         (try clear ho0)
         obtain ⟨Ao36,co36,eo36⟩:=Kd.R_slice HO302.out
         (first|subst eo36|(injection eo36 with f1_ f2_ f3_;have f4_:=f1_.symm;have f5_:=f3_.symm;clear f1_ f2_ f3_;subst f4_;subst f5_))
         refine hK.out _ _ ⟨(blk_cell BK278.out 0).trans rfl,(blk_cell BK278.out 1).trans rfl,(blk_cell BK278.out 2).trans rfl,(blk_cell BK278.out 3).trans rfl⟩ (fun hHeld=>?_)
         clear hK K
         refine norm_ (a':=?_) ?_ ?_
         rotate_left
         ·show Act.put _ (some 57) _ = _
          simp only [Act.put,List.setIfInBounds_toArray,List.set_cons_zero,List.set_cons_succ,i64_w,i32_w]
          rfl
         refine pure_ (i:=6) (N:=some 60) (v:=?_) (a':=?_) #[true,true,true,true,true,true,true,false,false] rfl rfl (any_of HT_.out (by kernel_rfl)) (fun _ _ _ h=>h) (Or.inl ⟨by rfl,?_⟩) ?_ ?_
         rotate_left
         ·intro w'
          go_simp
          with_reducible rfl
         rotate_left
         ·simp only [Act.put,List.setIfInBounds_toArray,List.set_cons_zero,List.set_cons_succ,i64_w,i32_w]
          rfl
         refine one_ (i:=7) (N:=some 15) #[true,true,true,true,true,true,true,true,false] rfl rfl (one_of HT_.out (by kernel_rfl)) (by decide) (fun K hK=>?_)
         refine box_step ?hg (N:=15) ?hd (cs:=#[.string (⟨#[]⟩:ByteArray),.slice none 0 0,.bool false,.string (⟨#[]⟩:ByteArray)]) (t:=24) ?hr ?_;(case hd=>rfl);(case hg=>rfl);(case hr=>first|(go_simp;done)|(go_simp;rfl))
         intro gb303 hg w37 hbox hb
         have n0_:=Aside0.mk (Kd.R_below (by (with_reducible repeat (first|apply Kd.R_alloc|apply Kd.R_drewN|apply Kd.R_drew));exact HO_8.out) hb)
         have n1_:=Aside0.mk (Kd.R_below (by (with_reducible repeat (first|apply Kd.R_alloc|apply Kd.R_drewN|apply Kd.R_drew));exact HO_9.out) hb)
         have n2_:=Aside0.mk (Kd.R_below (by (with_reducible repeat (first|apply Kd.R_alloc|apply Kd.R_drewN|apply Kd.R_drew));exact HO302.out) hb)
         have n3_:=Aside0.mk (blk_below (g:=gb278) (o:=.cells #[.string a0_0,.slice A0_1 l0_1.length c0_1,.bool a0_2,.string a0_3] 24 (0,0)) (by (with_reducible repeat (first|refine blk_drewN ?_ _|refine blk_drew ?_|refine blk_alloc ?_ _));exact BK278.out) hb)
         have n4_:=Aside0.mk (blk_below (g:=gb279) (o:=.cells #[.string x280000_1,.slice none 0 0,.bool x280002_1,.string x280003_1] 24 (0,0)) (by (with_reducible repeat (first|refine blk_drewN ?_ _|refine blk_drew ?_|refine blk_alloc ?_ _));exact BK279.out) hb)
         have n5_:=Aside0.mk (below_step (by repeat (first|(with_reducible first|exact HB.out|apply below_alloc|apply pw_below_drewN|apply below_drew1|refine below_set ?_ GE278.out|refine below_set ?_ GE279.out)|exact HB.out)) hb)
         have n6_:=Aside0.mk (hbox)
         have n7_:=Aside0.mk ((by rw [hg];exact (below_size (by repeat (first|(with_reducible first|exact HB.out|apply below_alloc|apply pw_below_drewN|apply below_drew1|refine below_set ?_ GE278.out|refine below_set ?_ GE279.out)|exact HB.out))):w.heap.size ≤ gb303))
         have n8_:=Aside0.mk ((by rw [hg];exact (below_size (by repeat (first|(with_reducible first|exact HB.out|apply below_alloc|apply pw_below_drewN|apply below_drew1|refine below_set ?_ GE278.out|refine below_set ?_ GE279.out)|exact HB.out))):w.heap.size ≤ gb303))
         have n9_:=Aside0.mk ((by rw [hg];exact Nat.ne_of_lt (blk_lt (g:=gb278) (o:=.cells #[.string a0_0,.slice A0_1 l0_1.length c0_1,.bool a0_2,.string a0_3] 24 (0,0)) (by (with_reducible repeat (first|refine blk_drewN ?_ _|refine blk_drew ?_|refine blk_alloc ?_ _));exact BK278.out)):gb278 ≠ gb303))
         have n10_:=Aside0.mk ((by rw [hg];exact Nat.ne_of_gt (blk_lt (g:=gb278) (o:=.cells #[.string a0_0,.slice A0_1 l0_1.length c0_1,.bool a0_2,.string a0_3] 24 (0,0)) (by (with_reducible repeat (first|refine blk_drewN ?_ _|refine blk_drew ?_|refine blk_alloc ?_ _));exact BK278.out)):gb303 ≠ gb278))
         have n11_:=Aside0.mk ((by rw [hg];exact Nat.ne_of_lt (blk_lt (g:=gb279) (o:=.cells #[.string x280000_1,.slice none 0 0,.bool x280002_1,.string x280003_1] 24 (0,0)) (by (with_reducible repeat (first|refine blk_drewN ?_ _|refine blk_drew ?_|refine blk_alloc ?_ _));exact BK279.out)):gb279 ≠ gb303))
         have n12_:=Aside0.mk ((by rw [hg];exact Nat.ne_of_gt (blk_lt (g:=gb279) (o:=.cells #[.string x280000_1,.slice none 0 0,.bool x280002_1,.string x280003_1] 24 (0,0)) (by (with_reducible repeat (first|refine blk_drewN ?_ _|refine blk_drew ?_|refine blk_alloc ?_ _));exact BK279.out)):gb303 ≠ gb279))
         clear HO_8
         clear HO_9
         clear HO302
         clear BK278
         clear BK279
         clear HB
         have HO_8:=n0_
         have HO_9:=n1_
         have HO302:=n2_
         have BK278:=n3_
         have BK279:=n4_
         have HB:=n5_
         have BK303:=n6_
         have GW303:=n7_
         have GE303:=n8_
         have NB278_303:=n9_
         have NB303_278:=n10_
         have NB279_303:=n11_
         have NB303_279:=n12_
         clear n0_ n1_ n2_ n3_ n4_ n5_ n6_ n7_ n8_ n9_ n10_ n11_ n12_
         clear hb hbox hg
         refine hK.out _ _ ⟨(blk_cell BK278.out 0).trans rfl,(blk_cell BK278.out 1).trans rfl,(blk_cell BK278.out 2).trans rfl,(blk_cell BK278.out 3).trans rfl⟩ (fun hHeld=>?_)
         clear hK K
         refine norm_ (a':=?_) ?_ ?_
         rotate_left
         ·show Act.put _ (some 15) _ = _
          simp only [Act.put,List.setIfInBounds_toArray,List.set_cons_zero,List.set_cons_succ,i64_w,i32_w]
          rfl
         exact norm_ (by simp only [putAll,Act.put,List.setIfInBounds_toArray,List.set_cons_zero,List.set_cons_succ]) (hCont (.slice Ao36 t300.length co36,gb303) _ ⟨hHeld,(by (with_reducible repeat (first|apply Kd.R_alloc|apply Kd.R_drewN|apply Kd.R_drew));exact Kd.R_mono HO302.out (fun _ hk=>⟨hk.1.2,hk.2⟩)),(by (with_reducible repeat (first|apply Kd.R_alloc|apply Kd.R_drewN|apply Kd.R_drew));exact Kd.R_mono HO_8.out (fun _ hk=>⟨hk.2,hk.1⟩)),(by (with_reducible repeat (first|apply Kd.R_alloc|apply Kd.R_drewN|apply Kd.R_drew));exact Kd.R_mono HO_9.out (fun _ hk=>⟨hk.2,hk.1⟩)),(by (with_reducible repeat (first|refine blk_drewN ?_ _|refine blk_drew ?_|refine blk_alloc ?_ _));exact BK278.out),(by (with_reducible repeat (first|refine blk_drewN ?_ _|refine blk_drew ?_|refine blk_alloc ?_ _));exact BK279.out),(by (with_reducible repeat (first|refine blk_drewN ?_ _|refine blk_drew ?_|refine blk_alloc ?_ _));exact BK303.out),GW303.out,GE303.out,NB278_303.out,NB303_278.out,NB279_303.out,NB303_279.out,(by repeat (first|(with_reducible first|exact HB.out|apply below_alloc|apply pw_below_drewN|apply below_drew1|refine below_set ?_ GE278.out|refine below_set ?_ GE279.out|refine below_set ?_ GE303.out)|exact HB.out))⟩)
        ·skip
         refine box_step ?hg (N:=15) ?hd (cs:=#[.string (⟨#[]⟩:ByteArray),.slice none 0 0,.bool false,.string (⟨#[]⟩:ByteArray)]) (t:=24) ?hr ?_;(case hd=>rfl);(case hg=>rfl);(case hr=>first|(go_simp;done)|(go_simp;rfl))
         intro gb303 hg w35 hbox hb
         have n0_:=Aside0.mk (Kd.R_below (by (with_reducible repeat (first|apply Kd.R_alloc|apply Kd.R_drewN|apply Kd.R_drew));exact HO_8.out) hb)
         have n1_:=Aside0.mk (Kd.R_below (by (with_reducible repeat (first|apply Kd.R_alloc|apply Kd.R_drewN|apply Kd.R_drew));exact HO_9.out) hb)
         have n2_:=Aside0.mk (blk_below (g:=gb278) (o:=.cells #[.string a0_0,.slice A0_1 l0_1.length c0_1,.bool a0_2,.string a0_3] 24 (0,0)) (by (with_reducible repeat (first|refine blk_drewN ?_ _|refine blk_drew ?_|refine blk_alloc ?_ _));exact BK278.out) hb)
         have n3_:=Aside0.mk (blk_below (g:=gb279) (o:=.cells #[.string x280000_1,.slice none 0 0,.bool x280002_1,.string x280003_1] 24 (0,0)) (by (with_reducible repeat (first|refine blk_drewN ?_ _|refine blk_drew ?_|refine blk_alloc ?_ _));exact BK279.out) hb)
         have n4_:=Aside0.mk (below_step (by repeat (first|(with_reducible first|exact HB.out|apply below_alloc|apply pw_below_drewN|apply below_drew1|refine below_set ?_ GE278.out|refine below_set ?_ GE279.out)|exact HB.out)) hb)
         have n5_:=Aside0.mk (hbox)
         have n6_:=Aside0.mk ((by rw [hg];exact (below_size (by repeat (first|(with_reducible first|exact HB.out|apply below_alloc|apply pw_below_drewN|apply below_drew1|refine below_set ?_ GE278.out|refine below_set ?_ GE279.out)|exact HB.out))):w.heap.size ≤ gb303))
         have n7_:=Aside0.mk ((by rw [hg];exact (below_size (by repeat (first|(with_reducible first|exact HB.out|apply below_alloc|apply pw_below_drewN|apply below_drew1|refine below_set ?_ GE278.out|refine below_set ?_ GE279.out)|exact HB.out))):w.heap.size ≤ gb303))
         have n8_:=Aside0.mk ((by rw [hg];exact Nat.ne_of_lt (blk_lt (g:=gb278) (o:=.cells #[.string a0_0,.slice A0_1 l0_1.length c0_1,.bool a0_2,.string a0_3] 24 (0,0)) (by (with_reducible repeat (first|refine blk_drewN ?_ _|refine blk_drew ?_|refine blk_alloc ?_ _));exact BK278.out)):gb278 ≠ gb303))
         have n9_:=Aside0.mk ((by rw [hg];exact Nat.ne_of_gt (blk_lt (g:=gb278) (o:=.cells #[.string a0_0,.slice A0_1 l0_1.length c0_1,.bool a0_2,.string a0_3] 24 (0,0)) (by (with_reducible repeat (first|refine blk_drewN ?_ _|refine blk_drew ?_|refine blk_alloc ?_ _));exact BK278.out)):gb303 ≠ gb278))
         have n10_:=Aside0.mk ((by rw [hg];exact Nat.ne_of_lt (blk_lt (g:=gb279) (o:=.cells #[.string x280000_1,.slice none 0 0,.bool x280002_1,.string x280003_1] 24 (0,0)) (by (with_reducible repeat (first|refine blk_drewN ?_ _|refine blk_drew ?_|refine blk_alloc ?_ _));exact BK279.out)):gb279 ≠ gb303))
         have n11_:=Aside0.mk ((by rw [hg];exact Nat.ne_of_gt (blk_lt (g:=gb279) (o:=.cells #[.string x280000_1,.slice none 0 0,.bool x280002_1,.string x280003_1] 24 (0,0)) (by (with_reducible repeat (first|refine blk_drewN ?_ _|refine blk_drew ?_|refine blk_alloc ?_ _));exact BK279.out)):gb303 ≠ gb279))
         clear HO_8
         clear HO_9
         clear BK278
         clear BK279
         clear HB
         have HO_8:=n0_
         have HO_9:=n1_
         have BK278:=n2_
         have BK279:=n3_
         have HB:=n4_
         have BK303:=n5_
         have GW303:=n6_
         have GE303:=n7_
         have NB278_303:=n8_
         have NB303_278:=n9_
         have NB279_303:=n10_
         have NB303_279:=n11_
         clear n0_ n1_ n2_ n3_ n4_ n5_ n6_ n7_ n8_ n9_ n10_ n11_
         clear hb hbox hg
         refine hK.out _ _ ⟨(blk_cell BK278.out 0).trans rfl,(blk_cell BK278.out 1).trans rfl,(blk_cell BK278.out 2).trans rfl,(blk_cell BK278.out 3).trans rfl⟩ (fun hHeld=>?_)
         clear hK K
         refine norm_ (a':=?_) ?_ ?_
         rotate_left
         ·show Act.put _ (some 15) _ = _
          simp only [Act.put,List.setIfInBounds_toArray,List.set_cons_zero,List.set_cons_succ,i64_w,i32_w]
          rfl
         refine one_ (i:=3) (N:=some 57) #[true,true,true,true,true,true,false,true,false] rfl rfl (one_of HT_.out (by kernel_rfl)) (by decide) (fun K hK=>?_)
         refine goes_ Tryd.func55 (by kernel_rfl) rfl #[.slice Ao33 x8_1.length co33] (by rfl) rfl rfl (by (try simp only [List.map_toArray,List.map_cons,List.map_nil]);first|done|rfl|(simp only [List.length_drop,List.length_take];rfl)) ?_
         with_reducible refine (spec_PathClean.calls k1 _ _ x8_1 t300 _ ?side1 ?side2 A27.out).mono ?_
         (case side1=>repeat (first|exact (Kd.R_reads' HO_8.out).2.2|(with_reducible refine Kd.C_alloc ?_ _)|(with_reducible refine Kd.C_drewN ?_ _)|(with_reducible refine Kd.C_drew ?_)))
         (case side2=>exact (Kd.R_reads' HO_8.out).2.1)
         rintro e w36 ⟨v301,rfl,ho0,hb⟩
         refine ⟨_,rfl,?_⟩
         have n0_:=Aside0.mk (Kd.R_elder' (by (with_reducible repeat (first|apply Kd.R_alloc|apply Kd.R_drewN|apply Kd.R_drew));exact HO_8.out) (Kd.R_base ho0) hb)
         have n1_:=Aside0.mk (Kd.R_elder' (by (with_reducible repeat (first|apply Kd.R_alloc|apply Kd.R_drewN|apply Kd.R_drew));exact HO_9.out) (Kd.R_base ho0) hb)
         have n2_:=Aside0.mk (Kd.R_lower (Kd.R_new' (Kd.R_new' ho0 (Kd.R_lt (by (with_reducible repeat (first|apply Kd.R_alloc|apply Kd.R_drewN|apply Kd.R_drew));exact HO_8.out))) (Kd.R_lt (by (with_reducible repeat (first|apply Kd.R_alloc|apply Kd.R_drewN|apply Kd.R_drew));exact HO_9.out))) (below_size (by repeat (first|(with_reducible first|exact HB.out|apply below_alloc|apply pw_below_drewN|apply below_drew1|refine below_set ?_ GE278.out|refine below_set ?_ GE279.out|refine below_set ?_ GE303.out)|exact HB.out))))
         have n3_:=Aside0.mk (blk_below (g:=gb278) (o:=.cells #[.string a0_0,.slice A0_1 l0_1.length c0_1,.bool a0_2,.string a0_3] 24 (0,0)) (by (with_reducible repeat (first|refine blk_drewN ?_ _|refine blk_drew ?_|refine blk_alloc ?_ _));exact BK278.out) hb)
         have n4_:=Aside0.mk (blk_below (g:=gb279) (o:=.cells #[.string x280000_1,.slice none 0 0,.bool x280002_1,.string x280003_1] 24 (0,0)) (by (with_reducible repeat (first|refine blk_drewN ?_ _|refine blk_drew ?_|refine blk_alloc ?_ _));exact BK279.out) hb)
         have n5_:=Aside0.mk (blk_below (g:=gb303) (o:=.cells #[.string (⟨#[]⟩:ByteArray),.slice none 0 0,.bool false,.string (⟨#[]⟩:ByteArray)] 24 (0,0)) (by (with_reducible repeat (first|refine blk_drewN ?_ _|refine blk_drew ?_|refine blk_alloc ?_ _));exact BK303.out) hb)
         have n6_:=Aside0.mk (below_step (by repeat (first|(with_reducible first|exact HB.out|apply below_alloc|apply pw_below_drewN|apply below_drew1|refine below_set ?_ GE278.out|refine below_set ?_ GE279.out|refine below_set ?_ GE303.out)|exact HB.out)) hb)
         clear HO_8
         clear HO_9
         clear BK278
         clear BK279
         clear BK303
         clear HB
         have HO_8:=n0_
         have HO_9:=n1_
         have HO302:=n2_
         have BK278:=n3_
         have BK279:=n4_
         have BK303:=n5_
         have HB:=n6_
         clear n0_ n1_ n2_ n3_ n4_ n5_ n6_
         (try clear hb)
         (try clear hb2)
         (try clear hk)
         (try clear hi)
         (try clear ho0)
         obtain ⟨Ao37,co37,eo37⟩:=Kd.R_slice HO302.out
         (first|subst eo37|(injection eo37 with f1_ f2_ f3_;have f4_:=f1_.symm;have f5_:=f3_.symm;clear f1_ f2_ f3_;subst f4_;subst f5_))
         refine hK.out _ _ ⟨(blk_cell BK278.out 0).trans rfl,(blk_cell BK278.out 1).trans rfl,(blk_cell BK278.out 2).trans rfl,(blk_cell BK278.out 3).trans rfl⟩ (fun hHeld=>?_)
         clear hK K
         refine norm_ (a':=?_) ?_ ?_
         rotate_left
         ·show Act.put _ (some 57) _ = _
          simp only [Act.put,List.setIfInBounds_toArray,List.set_cons_zero,List.set_cons_succ,i64_w,i32_w]
          rfl
         refine pure_ (i:=6) (N:=some 60) (v:=?_) (a':=?_) #[true,true,true,true,true,true,true,true,false] rfl rfl (any_of HT_.out (by kernel_rfl)) (fun _ _ _ h=>h) (Or.inl ⟨by rfl,?_⟩) ?_ ?_
         rotate_left
         ·intro w'
          go_simp
          with_reducible rfl
         rotate_left
         ·simp only [Act.put,List.setIfInBounds_toArray,List.set_cons_zero,List.set_cons_succ,i64_w,i32_w]
          rfl
         exact norm_ (by simp only [putAll,Act.put,List.setIfInBounds_toArray,List.set_cons_zero,List.set_cons_succ]) (hCont (.slice Ao37 t300.length co37,gb303) _ ⟨hHeld,(by (with_reducible repeat (first|apply Kd.R_alloc|apply Kd.R_drewN|apply Kd.R_drew));exact Kd.R_mono HO302.out (fun _ hk=>⟨hk.1.2,hk.2⟩)),(by (with_reducible repeat (first|apply Kd.R_alloc|apply Kd.R_drewN|apply Kd.R_drew));exact Kd.R_mono HO_8.out (fun _ hk=>⟨hk.2,hk.1⟩)),(by (with_reducible repeat (first|apply Kd.R_alloc|apply Kd.R_drewN|apply Kd.R_drew));exact Kd.R_mono HO_9.out (fun _ hk=>⟨hk.2,hk.1⟩)),(by (with_reducible repeat (first|refine blk_drewN ?_ _|refine blk_drew ?_|refine blk_alloc ?_ _));exact BK278.out),(by (with_reducible repeat (first|refine blk_drewN ?_ _|refine blk_drew ?_|refine blk_alloc ?_ _));exact BK279.out),(by (with_reducible repeat (first|refine blk_drewN ?_ _|refine blk_drew ?_|refine blk_alloc ?_ _));exact BK303.out),GW303.out,GE303.out,NB278_303.out,NB303_278.out,NB279_303.out,NB303_279.out,(by repeat (first|(with_reducible first|exact HB.out|apply below_alloc|apply pw_below_drewN|apply below_drew1|refine below_set ?_ GE278.out|refine below_set ?_ GE279.out|refine below_set ?_ GE303.out)|exact HB.out))⟩)
       rintro ⟨v301,gb303⟩ w38 ⟨hS_,h0_,h1_,h2_,h3_,h4_,h5_,h6_,h7_,h8_,h9_,h10_,h11_,h12_⟩
       have n0_:Aside0 (Kd.R Kd.string 9 w38 w.heap.size (fun k_=>some k_ ≠ (.slice Ao33 x8_1.length co33:Value).ownBlock ∧ some k_ ≠ (.slice Ao31 t289.length co31:Value).ownBlock) v301 t300):=⟨h0_⟩
       have n1_:Aside0 (Kd.R Kd.string 9 w38 w.heap.size (fun k_=>some k_ ≠ (v301:Value).ownBlock ∧ some k_ ≠ (.slice Ao31 t289.length co31:Value).ownBlock) (.slice Ao33 x8_1.length co33) x8_1):=⟨h1_⟩
       have n2_:Aside0 (Kd.R Kd.string 9 w38 w.heap.size (fun k_=>some k_ ≠ (v301:Value).ownBlock ∧ some k_ ≠ (.slice Ao33 x8_1.length co33:Value).ownBlock) (.slice Ao31 t289.length co31) t289):=⟨h2_⟩
       have n3_:Aside0 (w38.heap[gb278]? = some (.cells #[.string a0_0,.slice A0_1 l0_1.length c0_1,.bool a0_2,.string a0_3] 24 (0,0))):=⟨h3_⟩
       have n4_:Aside0 (w38.heap[gb279]? = some (.cells #[.string x280000_1,.slice none 0 0,.bool x280002_1,.string x280003_1] 24 (0,0))):=⟨h4_⟩
       have n5_:Aside0 (w38.heap[gb303]? = some (.cells #[.string (⟨#[]⟩:ByteArray),.slice none 0 0,.bool false,.string (⟨#[]⟩:ByteArray)] 24 (0,0))):=⟨h5_⟩
       have n6_:Aside0 (w.heap.size ≤ gb303):=⟨h6_⟩
       have n7_:Aside0 (w.heap.size ≤ gb303):=⟨h7_⟩
       have n8_:Aside0 (gb278 ≠ gb303):=⟨h8_⟩
       have n9_:Aside0 (gb303 ≠ gb278):=⟨h9_⟩
       have n10_:Aside0 (gb279 ≠ gb303):=⟨h10_⟩
       have n11_:Aside0 (gb303 ≠ gb279):=⟨h11_⟩
       have n12_:Aside0 (Below w.heap.size w w38):=⟨h12_⟩
       clear HO_8
       clear HO_9
       clear BK278
       clear BK279
       clear HB
       clear h0_ h1_ h2_ h3_ h4_ h5_ h6_ h7_ h8_ h9_ h10_ h11_ h12_
       have HO302:=n0_
       have HO_8:=n1_
       have HO_9:=n2_
       have BK278:=n3_
       have BK279:=n4_
       have BK303:=n5_
       have GW303:=n6_
       have GE303:=n7_
       have NB278_303:=n8_
       have NB303_278:=n9_
       have NB279_303:=n10_
       have NB303_279:=n11_
       have HB:=n12_
       clear n0_ n1_ n2_ n3_ n4_ n5_ n6_ n7_ n8_ n9_ n10_ n11_ n12_
       have hHeld:w38.cell? ⟨gb278,0,none⟩ = some (.string a0_0) ∧ w38.cell? ⟨gb278,1,none⟩ = some (.slice A0_1 l0_1.length c0_1) ∧ w38.cell? ⟨gb278,2,none⟩ = some (.bool a0_2) ∧ w38.cell? ⟨gb278,3,none⟩ = some (.string a0_3):=hS_
       obtain ⟨Ao39,co39,eo39⟩:=Kd.R_slice HO302.out
       (first|subst eo39|(injection eo39 with f1_ f2_ f3_;have f4_:=f1_.symm;have f5_:=f3_.symm;clear f1_ f2_ f3_;subst f4_;subst f5_))
       refine norm_ (a':=?_) ?_ ?_
       rotate_left
       ·simp only [putAll,Act.put,List.setIfInBounds_toArray,List.set_cons_zero,List.set_cons_succ]
        rfl
       refine one_ (i:=8) (N:=none) #[true,true,true,true,true,true,true,true,true] rfl rfl (one_of HT_.out (by kernel_rfl)) (by decide) (fun K hK=>?_)
       have hs40:w38.cell? ⟨gb303,0,none⟩ = some (.string (⟨#[]⟩:ByteArray)):=(blk_cell BK303.out 0).trans rfl
       have hfs40:=blk_frozen BK303.out 0
       have hns40_0:=NB278_303.out
       have hns40_1:=NB279_303.out
       have hms40_0:=NB303_278.out
       have hms40_1:=NB303_279.out
       have hs41:w38.cell? ⟨gb303,1,none⟩ = some (.slice none 0 0):=(blk_cell BK303.out 1).trans rfl
       have hfs41:=blk_frozen BK303.out 1
       have hns41_0:=NB278_303.out
       have hns41_1:=NB279_303.out
       have hms41_0:=NB303_278.out
       have hms41_1:=NB303_279.out
       have hs42:w38.cell? ⟨gb303,2,none⟩ = some (.bool false):=(blk_cell BK303.out 2).trans rfl
       have hfs42:=blk_frozen BK303.out 2
       have hns42_0:=NB278_303.out
       have hns42_1:=NB279_303.out
       have hms42_0:=NB303_278.out
       have hms42_1:=NB303_279.out
       have hs43:w38.cell? ⟨gb303,3,none⟩ = some (.string (⟨#[]⟩:ByteArray)):=(blk_cell BK303.out 3).trans rfl
       have hfs43:=blk_frozen BK303.out 3
       have hns43_0:=NB278_303.out
       have hns43_1:=NB279_303.out
       have hms43_0:=NB303_278.out
       have hms43_1:=NB303_279.out
       refine skip_ (w1:=?_) (by rfl) rfl ?_ ?_
       rotate_left
       ·go_simp
        rfl
       refine hK.out _ _ ⟨((cell_far (p:=⟨gb303,_,none⟩) NB278_303.out _).trans (((cell_far (p:=⟨gb303,_,none⟩) NB278_303.out _).trans (((cell_far (p:=⟨gb303,_,none⟩) NB278_303.out _).trans (((cell_far (p:=⟨gb303,_,none⟩) NB278_303.out _).trans (hHeld.1)))))))),((cell_far (p:=⟨gb303,_,none⟩) NB278_303.out _).trans (((cell_far (p:=⟨gb303,_,none⟩) NB278_303.out _).trans (((cell_far (p:=⟨gb303,_,none⟩) NB278_303.out _).trans (((cell_far (p:=⟨gb303,_,none⟩) NB278_303.out _).trans (hHeld.2.1)))))))),((cell_far (p:=⟨gb303,_,none⟩) NB278_303.out _).trans (((cell_far (p:=⟨gb303,_,none⟩) NB278_303.out _).trans (((cell_far (p:=⟨gb303,_,none⟩) NB278_303.out _).trans (((cell_far (p:=⟨gb303,_,none⟩) NB278_303.out _).trans (hHeld.2.2.1)))))))),((cell_far (p:=⟨gb303,_,none⟩) NB278_303.out _).trans (((cell_far (p:=⟨gb303,_,none⟩) NB278_303.out _).trans (((cell_far (p:=⟨gb303,_,none⟩) NB278_303.out _).trans (((cell_far (p:=⟨gb303,_,none⟩) NB278_303.out _).trans (hHeld.2.2.2))))))))⟩ (fun hHeld=>?_)
       clear hK K
       refine done_ (done_of HT_.out (by kernel_rfl)) ?_
       have hnb44:=NB303_278.out
       have hnc44:=NB278_303.out
       have hnb45:=NB303_279.out
       have hnc45:=NB279_303.out
       have hcz46_0:w38.cell? ⟨gb303,0,none⟩ = some (.string (⟨#[]⟩:ByteArray)):=(blk_cell BK303.out 0).trans rfl
       have hcz46_1:w38.cell? ⟨gb303,1,none⟩ = some (.slice none 0 0):=(blk_cell BK303.out 1).trans rfl
       have hcz46_2:w38.cell? ⟨gb303,2,none⟩ = some (.bool false):=(blk_cell BK303.out 2).trans rfl
       have hcz46_3:w38.cell? ⟨gb303,3,none⟩ = some (.string (⟨#[]⟩:ByteArray)):=(blk_cell BK303.out 3).trans rfl
       have hfz46_0:=blk_frozen BK303.out 0
       have hfz46_1:=blk_frozen BK303.out 1
       have hfz46_2:=blk_frozen BK303.out 2
       have hfz46_3:=blk_frozen BK303.out 3
       try go_wp2_with (first|(go_at_call 29;(with_reducible refine (spec_AddrOk.calls k1 a0_0 _ _ t300 t282 t298 true _ ?side1 ?side2 A29.out).mono ?_);(case side1=>refine (Kd.R_reads' (e:=9) (base:=w.heap.size) (ok:=fun k_=>(some k_ ≠ (.slice Ao33 x8_1.length co33:Value).ownBlock ∧ some k_ ≠ (.slice Ao31 t289.length co31:Value).ownBlock)) (n:=t300.length) (c:=co39) ?_).2.2;exact (by (with_reducible repeat (first|apply Kd.R_alloc|apply Kd.R_drewN|apply Kd.R_drew));exact (Kd.R_mono (Kd.R_far (p:=⟨gb303,3,none⟩) (Kd.R_far (p:=⟨gb303,2,none⟩) (Kd.R_far (p:=⟨gb303,1,none⟩) (Kd.R_far (p:=⟨gb303,0,none⟩) (Kd.R_types HO302.out BK303.out (by decide)) (fun _ hk=>hk.2) (.string a0_0)) (fun _ hk=>hk.2) (.slice Ao39 t300.length co39)) (fun _ hk=>hk.2) (.bool t282)) (fun _ hk=>hk.2) (.string t298)) (fun _ h_=>h_.1))));(case side2=>exact (Kd.R_reads' HO302.out).2.1);rintro e w47 ⟨rfl,hb⟩;have n0_:=Aside0.mk (Kd.R_below (by (with_reducible repeat (first|apply Kd.R_alloc|apply Kd.R_drewN|apply Kd.R_drew));exact (Kd.R_mono (Kd.R_far (p:=⟨gb303,3,none⟩) (Kd.R_far (p:=⟨gb303,2,none⟩) (Kd.R_far (p:=⟨gb303,1,none⟩) (Kd.R_far (p:=⟨gb303,0,none⟩) (Kd.R_types HO_8.out BK303.out (by decide)) (fun _ hk=>hk.2) (.string a0_0)) (fun _ hk=>hk.2) (.slice Ao39 t300.length co39)) (fun _ hk=>hk.2) (.bool t282)) (fun _ hk=>hk.2) (.string t298)) (fun _ h_=>h_.1))) hb);have n1_:=Aside0.mk (Kd.R_below (by (with_reducible repeat (first|apply Kd.R_alloc|apply Kd.R_drewN|apply Kd.R_drew));exact (Kd.R_mono (Kd.R_far (p:=⟨gb303,3,none⟩) (Kd.R_far (p:=⟨gb303,2,none⟩) (Kd.R_far (p:=⟨gb303,1,none⟩) (Kd.R_far (p:=⟨gb303,0,none⟩) (Kd.R_types HO_9.out BK303.out (by decide)) (fun _ hk=>hk.2) (.string a0_0)) (fun _ hk=>hk.2) (.slice Ao39 t300.length co39)) (fun _ hk=>hk.2) (.bool t282)) (fun _ hk=>hk.2) (.string t298)) (fun _ h_=>h_.1))) hb);have n2_:=Aside0.mk (Kd.R_below (by (with_reducible repeat (first|apply Kd.R_alloc|apply Kd.R_drewN|apply Kd.R_drew));exact (Kd.R_mono (Kd.R_far (p:=⟨gb303,3,none⟩) (Kd.R_far (p:=⟨gb303,2,none⟩) (Kd.R_far (p:=⟨gb303,1,none⟩) (Kd.R_far (p:=⟨gb303,0,none⟩) (Kd.R_types HO302.out BK303.out (by decide)) (fun _ hk=>hk.2) (.string a0_0)) (fun _ hk=>hk.2) (.slice Ao39 t300.length co39)) (fun _ hk=>hk.2) (.bool t282)) (fun _ hk=>hk.2) (.string t298)) (fun _ h_=>h_.1))) hb);have n3_:=Aside0.mk (blk_below (g:=gb278) (o:=.cells #[.string a0_0,.slice A0_1 l0_1.length c0_1,.bool a0_2,.string a0_3] 24 (0,0)) (by (with_reducible repeat (first|refine blk_drewN ?_ _|refine blk_drew ?_|refine blk_alloc ?_ _));refine blk_far ?_ NB278_303.out _;(with_reducible repeat (first|refine blk_drewN ?_ _|refine blk_drew ?_|refine blk_alloc ?_ _));refine blk_far ?_ NB278_303.out _;(with_reducible repeat (first|refine blk_drewN ?_ _|refine blk_drew ?_|refine blk_alloc ?_ _));refine blk_far ?_ NB278_303.out _;(with_reducible repeat (first|refine blk_drewN ?_ _|refine blk_drew ?_|refine blk_alloc ?_ _));refine blk_far ?_ NB278_303.out _;(with_reducible repeat (first|refine blk_drewN ?_ _|refine blk_drew ?_|refine blk_alloc ?_ _));exact BK278.out) hb);have n4_:=Aside0.mk (blk_below (g:=gb279) (o:=.cells #[.string x280000_1,.slice none 0 0,.bool x280002_1,.string x280003_1] 24 (0,0)) (by (with_reducible repeat (first|refine blk_drewN ?_ _|refine blk_drew ?_|refine blk_alloc ?_ _));refine blk_far ?_ NB279_303.out _;(with_reducible repeat (first|refine blk_drewN ?_ _|refine blk_drew ?_|refine blk_alloc ?_ _));refine blk_far ?_ NB279_303.out _;(with_reducible repeat (first|refine blk_drewN ?_ _|refine blk_drew ?_|refine blk_alloc ?_ _));refine blk_far ?_ NB279_303.out _;(with_reducible repeat (first|refine blk_drewN ?_ _|refine blk_drew ?_|refine blk_alloc ?_ _));refine blk_far ?_ NB279_303.out _;(with_reducible repeat (first|refine blk_drewN ?_ _|refine blk_drew ?_|refine blk_alloc ?_ _));exact BK279.out) hb);have n5_:=Aside0.mk (blk_below (g:=gb303) (o:=.cells #[.string a0_0,.slice Ao39 t300.length co39,.bool t282,.string t298] 24 (0,0)) (by (with_reducible repeat (first|refine blk_drewN ?_ _|refine blk_drew ?_|refine blk_alloc ?_ _));refine blk_put (cs:=#[.string a0_0,.slice Ao39 t300.length co39,.bool t282,.string (⟨#[]⟩:ByteArray)]) ?_ 3 _ rfl;(with_reducible repeat (first|refine blk_drewN ?_ _|refine blk_drew ?_|refine blk_alloc ?_ _));refine blk_put (cs:=#[.string a0_0,.slice Ao39 t300.length co39,.bool false,.string (⟨#[]⟩:ByteArray)]) ?_ 2 _ rfl;(with_reducible repeat (first|refine blk_drewN ?_ _|refine blk_drew ?_|refine blk_alloc ?_ _));refine blk_put (cs:=#[.string a0_0,.slice none 0 0,.bool false,.string (⟨#[]⟩:ByteArray)]) ?_ 1 _ rfl;(with_reducible repeat (first|refine blk_drewN ?_ _|refine blk_drew ?_|refine blk_alloc ?_ _));refine blk_put (cs:=#[.string (⟨#[]⟩:ByteArray),.slice none 0 0,.bool false,.string (⟨#[]⟩:ByteArray)]) ?_ 0 _ rfl;(with_reducible repeat (first|refine blk_drewN ?_ _|refine blk_drew ?_|refine blk_alloc ?_ _));exact BK303.out) hb);have n6_:=Aside0.mk (below_step (by repeat (first|(with_reducible first|exact HB.out|apply below_alloc|apply pw_below_drewN|apply below_drew1|refine below_set ?_ GE278.out|refine below_set ?_ GE279.out|refine below_set ?_ GE303.out)|exact HB.out)) hb);clear HO_8;clear HO_9;clear HO302;clear BK278;clear BK279;clear BK303;clear HB;have HO_8:=n0_;have HO_9:=n1_;have HO302:=n2_;have BK278:=n3_;have BK279:=n4_;have BK303:=n5_;have HB:=n6_;clear n0_ n1_ n2_ n3_ n4_ n5_ n6_;(try clear hb);(try clear hb2);(try clear hk);(try clear hi);have hcz48_0:w47.cell? ⟨gb303,0,none⟩ = some (.string a0_0):=(blk_cell BK303.out 0).trans rfl;have hcz48_1:w47.cell? ⟨gb303,1,none⟩ = some (.slice Ao39 t300.length co39):=(blk_cell BK303.out 1).trans rfl;have hcz48_2:w47.cell? ⟨gb303,2,none⟩ = some (.bool t282):=(blk_cell BK303.out 2).trans rfl;have hcz48_3:w47.cell? ⟨gb303,3,none⟩ = some (.string t298):=(blk_cell BK303.out 3).trans rfl;have hfz48_0:=blk_frozen BK303.out 0;have hfz48_1:=blk_frozen BK303.out 1;have hfz48_2:=blk_frozen BK303.out 2;have hfz48_3:=blk_frozen BK303.out 3;have hnb49:=NB279_278.out;have hnc49:=NB278_279.out;have hcz50_0:w47.cell? ⟨gb279,0,none⟩ = some (.string x280000_1):=(blk_cell BK279.out 0).trans rfl;have hcz50_1:w47.cell? ⟨gb279,1,none⟩ = some (.slice none 0 0):=(blk_cell BK279.out 1).trans rfl;have hcz50_2:w47.cell? ⟨gb279,2,none⟩ = some (.bool x280002_1):=(blk_cell BK279.out 2).trans rfl;have hcz50_3:w47.cell? ⟨gb279,3,none⟩ = some (.string x280003_1):=(blk_cell BK279.out 3).trans rfl;have hfz50_0:=blk_frozen BK279.out 0;have hfz50_1:=blk_frozen BK279.out 1;have hfz50_2:=blk_frozen BK279.out 2;have hfz50_3:=blk_frozen BK279.out 3))
       refine bodyPost_ret (results_ct rfl _ _ gb279 24 #[.string a0_0,.slice Ao39 t300.length co39,.bool t282,.string t298] (0,0) _ rfl (by (with_reducible repeat (first|refine blk_drewN ?_ _|refine blk_drew ?_|refine blk_alloc ?_ _));refine blk_put (cs:=#[.string a0_0,.slice Ao39 t300.length co39,.bool t282,.string x280003_1]) ?_ 3 _ rfl;(with_reducible repeat (first|refine blk_drewN ?_ _|refine blk_drew ?_|refine blk_alloc ?_ _));refine blk_put (cs:=#[.string a0_0,.slice Ao39 t300.length co39,.bool x280002_1,.string x280003_1]) ?_ 2 _ rfl;(with_reducible repeat (first|refine blk_drewN ?_ _|refine blk_drew ?_|refine blk_alloc ?_ _));refine blk_put (cs:=#[.string a0_0,.slice none 0 0,.bool x280002_1,.string x280003_1]) ?_ 1 _ rfl;(with_reducible repeat (first|refine blk_drewN ?_ _|refine blk_drew ?_|refine blk_alloc ?_ _));refine blk_put (cs:=#[.string x280000_1,.slice none 0 0,.bool x280002_1,.string x280003_1]) ?_ 0 _ rfl;(with_reducible repeat (first|refine blk_drewN ?_ _|refine blk_drew ?_|refine blk_alloc ?_ _));exact BK279.out) Tryd.underlying24 rfl (by kernel_rfl)) rfl ?_
       exact ⟨_,by first|rfl|(simp <;> rfl)|(simp [*] <;> rfl),by (with_reducible repeat (first|apply Kd.R_alloc|apply Kd.R_drewN|apply Kd.R_drew));exact Kd.R_mono (Kd.R_far (p:=⟨gb279,3,none⟩) (Kd.R_far (p:=⟨gb279,2,none⟩) (Kd.R_far (p:=⟨gb279,1,none⟩) (Kd.R_far (p:=⟨gb279,0,none⟩) (Kd.R_types HO302.out BK279.out (by decide)) (fun _ hk=>hk.2) (.string a0_0)) (fun _ hk=>hk.2) (.slice Ao39 t300.length co39)) (fun _ hk=>hk.2) (.bool t282)) (fun _ hk=>hk.2) (.string t298)) (fun _ hk=>trivial),by repeat (first|(with_reducible first|exact HB.out|apply below_alloc|apply pw_below_drewN|apply below_drew1|refine below_set ?_ GE278.out|refine below_set ?_ GE279.out|refine below_set ?_ GE303.out)|exact HB.out)⟩
      ·replace c30:=Bool.eq_false_iff.mpr c30
       subst c30
       have H1:(some ((⟨#[]⟩:ByteArray),([]:List ByteArray),false,(⟨#[]⟩:ByteArray),false)) = some (r1,r2,r3,r4,r5):=by rw [if_neg (show ¬ (false = true) by decide)] at H;exact H
       clear H
       have H:=H1
       clear H1
       simp only [Option.some.injEq,Prod.mk.injEq] at H
       obtain ⟨rfl,rfl,rfl,rfl,rfl⟩:=H
       obtain ⟨Ao51,co51,eo51⟩:=Kd.R_slice HO_9.out
       subst eo51
       try go_wp2_with (first|((with_reducible refine gate_callee (f:=54) rfl ?_);refine goesL_ (some 51) rfl rfl Tryd.func54 (by kernel_rfl) rfl #[.string t281] rfl (by (try simp only [List.map_toArray,List.map_cons,List.map_nil]);first|done|rfl|(simp only [List.length_drop,List.length_take];rfl)) ?_;(with_reducible refine (spec_EscNorm.calls k1 t281 t298 true _ A26.out).mono ?_);rintro e w52 ⟨rfl,hb⟩;refine ⟨_,rfl,?_⟩;have n0_:=Aside0.mk (Kd.R_below (by (with_reducible repeat (first|apply Kd.R_alloc|apply Kd.R_drewN|apply Kd.R_drew));exact HO_8.out) hb);have n1_:=Aside0.mk (Kd.R_below (by (with_reducible repeat (first|apply Kd.R_alloc|apply Kd.R_drewN|apply Kd.R_drew));exact HO_9.out) hb);have n2_:=Aside0.mk (blk_below (g:=gb278) (o:=.cells #[.string a0_0,.slice A0_1 l0_1.length c0_1,.bool a0_2,.string a0_3] 24 (0,0)) (by (with_reducible repeat (first|refine blk_drewN ?_ _|refine blk_drew ?_|refine blk_alloc ?_ _));exact BK278.out) hb);have n3_:=Aside0.mk (blk_below (g:=gb279) (o:=.cells #[.string x280000_1,.slice none 0 0,.bool x280002_1,.string x280003_1] 24 (0,0)) (by (with_reducible repeat (first|refine blk_drewN ?_ _|refine blk_drew ?_|refine blk_alloc ?_ _));exact BK279.out) hb);have n4_:=Aside0.mk (below_step (by repeat (first|(with_reducible first|exact HB.out|apply below_alloc|apply pw_below_drewN|apply below_drew1|refine below_set ?_ GE278.out|refine below_set ?_ GE279.out)|exact HB.out)) hb);clear HO_8;clear HO_9;clear BK278;clear BK279;clear HB;have HO_8:=n0_;have HO_9:=n1_;have BK278:=n2_;have BK279:=n3_;have HB:=n4_;clear n0_ n1_ n2_ n3_ n4_;(try clear hb);(try clear hb2);(try clear hk);(try clear hi);obtain ⟨Ao53,co53,eo53⟩:=Kd.R_slice HO_8.out;subst eo53))
       have n0_:=Aside0.mk (Kd.R_drew HO_8.out)
       have n1_:=Aside0.mk (Kd.R_drew HO_9.out)
       have n2_:=Aside0.mk (blk_drew BK278.out)
       have n3_:=Aside0.mk (blk_drew BK279.out)
       have n4_:=Aside0.mk (below_drew1 HB.out)
       clear HO_8
       clear HO_9
       clear BK278
       clear BK279
       clear HB
       have HO_8:=n0_
       have HO_9:=n1_
       have BK278:=n2_
       have BK279:=n3_
       have HB:=n4_
       clear n0_ n1_ n2_ n3_ n4_
       refine start_ (n:=9) (S:=fun w'=>w'.cell? ⟨gb278,0,none⟩ = some (.string a0_0) ∧ w'.cell? ⟨gb278,1,none⟩ = some (.slice A0_1 l0_1.length c0_1) ∧ w'.cell? ⟨gb278,2,none⟩ = some (.bool a0_2) ∧ w'.cell? ⟨gb278,3,none⟩ = some (.string a0_3)) (ds:=[]) #[false,false,false,false,false,false,false,false,false] (by kernel_rfl) rfl rfl ⟨(blk_cell BK278.out 0).trans rfl,(blk_cell BK278.out 1).trans rfl,(blk_cell BK278.out 2).trans rfl,(blk_cell BK278.out 3).trans rfl⟩ (fun hHeld=>?_);refine with_tabW spec_l1Way.tab12 spec_l1Way.bits12 (fun HT_ HW_=>?_)
       generalize w52.drew = w54 at HO_8 HO_9 BK278 BK279 HB hHeld ⊢
       refine pure_ (i:=0) (N:=some 54) (v:=?_) (a':=?_) #[true,false,false,false,false,false,false,false,false] rfl rfl (any_of HT_.out (by kernel_rfl)) (fun _ _ _ h=>h) (Or.inl ⟨by rfl,?_⟩) ?_ ?_
       rotate_left
       ·intro w'
        go_simp
        with_reducible rfl
       rotate_left
       ·simp only [Act.put,List.setIfInBounds_toArray,List.set_cons_zero,List.set_cons_succ,i64_w,i32_w]
        rfl
       refine pure_ (i:=2) (N:=some 56) (v:=?_) (a':=?_) #[true,false,true,false,false,false,false,false,false] rfl rfl (any_of HT_.out (by kernel_rfl)) (fun _ _ _ h=>h) (Or.inl ⟨by rfl,?_⟩) ?_ ?_
       rotate_left
       ·intro w'
        go_simp
        with_reducible rfl
       rotate_left
       ·simp only [Act.put,List.setIfInBounds_toArray,List.set_cons_zero,List.set_cons_succ,i64_w,i32_w]
        rfl
       refine pure_ (i:=4) (N:=some 58) (v:=?_) (a':=?_) #[true,false,true,false,true,false,false,false,false] rfl rfl (any_of HT_.out (by kernel_rfl)) (fun _ _ _ h=>h) (Or.inl ⟨by rfl,?_⟩) ?_ ?_
       rotate_left
       ·intro w'
        go_simp
        with_reducible rfl
       rotate_left
       ·simp only [Act.put,List.setIfInBounds_toArray,List.set_cons_zero,List.set_cons_succ,i64_w,i32_w]
        rfl
       refine pure_ (i:=5) (N:=some 59) (v:=?_) (a':=?_) #[true,false,true,false,true,true,false,false,false] rfl rfl (any_of HT_.out (by kernel_rfl)) (fun _ _ _ h=>h) (Or.inl ⟨by rfl,?_⟩) ?_ ?_
       rotate_left
       ·intro w'
        go_simp
        with_reducible rfl
       rotate_left
       ·simp only [Act.put,List.setIfInBounds_toArray,List.set_cons_zero,List.set_cons_succ,i64_w,i32_w]
        rfl
       refine take_ (i:=1) (N:=some 55) (v:=?_) (a':=?_) #[true,true,true,false,true,true,false,false,false] rfl rfl (take_ofW HT_.out HW_.out (by kernel_rfl)) (fun _ _ _ h=>h) (Or.inl ⟨by rfl,?_⟩) hHeld ?_ ?_
       rotate_left
       ·rintro w' ⟨s0,s1,s2,s3⟩
        go_simp
        with_reducible rfl
       rotate_left
       ·simp only [Act.put,List.setIfInBounds_toArray,List.set_cons_zero,List.set_cons_succ,i64_w,i32_w]
        rfl
       refine join_ (σ:=Value × Nat) 1 #[true,true,true,true,true,true,true,true,false] (fun s_=>[(57,s_.1),(15,.pointer (some ⟨s_.2,0,none⟩)),(60,.agg #[.string a0_0,s_.1,.bool t282,.string t298])]) (fun s_ w'=>(w'.cell? ⟨gb278,0,none⟩ = some (.string a0_0) ∧ w'.cell? ⟨gb278,1,none⟩ = some (.slice A0_1 l0_1.length c0_1) ∧ w'.cell? ⟨gb278,2,none⟩ = some (.bool a0_2) ∧ w'.cell? ⟨gb278,3,none⟩ = some (.string a0_3)) ∧ (Kd.R Kd.string 9 w' w.heap.size (fun k_=>some k_ ≠ (.slice Ao53 x8_1.length co53:Value).ownBlock ∧ some k_ ≠ (.slice Ao51 t289.length co51:Value).ownBlock) s_.1 t300) ∧ (Kd.R Kd.string 9 w' w.heap.size (fun k_=>some k_ ≠ (s_.1:Value).ownBlock ∧ some k_ ≠ (.slice Ao51 t289.length co51:Value).ownBlock) (.slice Ao53 x8_1.length co53) x8_1) ∧ (Kd.R Kd.string 9 w' w.heap.size (fun k_=>some k_ ≠ (s_.1:Value).ownBlock ∧ some k_ ≠ (.slice Ao53 x8_1.length co53:Value).ownBlock) (.slice Ao51 t289.length co51) t289) ∧ (w'.heap[gb278]? = some (.cells #[.string a0_0,.slice A0_1 l0_1.length c0_1,.bool a0_2,.string a0_3] 24 (0,0))) ∧ (w'.heap[gb279]? = some (.cells #[.string x280000_1,.slice none 0 0,.bool x280002_1,.string x280003_1] 24 (0,0))) ∧ (w'.heap[s_.2]? = some (.cells #[.string (⟨#[]⟩:ByteArray),.slice none 0 0,.bool false,.string (⟨#[]⟩:ByteArray)] 24 (0,0))) ∧ (w.heap.size ≤ s_.2) ∧ (w.heap.size ≤ s_.2) ∧ (gb278 ≠ s_.2) ∧ (s_.2 ≠ gb278) ∧ (gb279 ≠ s_.2) ∧ (s_.2 ≠ gb279) ∧ (Below w.heap.size w w')) ?_ ?_
       rotate_left
       ·intro hCont
        refine two_ (i:=3) (j:=7) (Ni:=some 57) (Nj:=some 15) #[true,true,true,true,true,true,false,false,false] #[true,true,true,false,true,true,false,true,false] rfl rfl rfl rfl (two_of HT_.out (by kernel_rfl)) (by decide) (by decide) (fun K hK=>?_) (fun K hK=>?_)
        ·skip
         refine goes_ Tryd.func55 (by kernel_rfl) rfl #[.slice Ao53 x8_1.length co53] (by rfl) rfl rfl (by (try simp only [List.map_toArray,List.map_cons,List.map_nil]);first|done|rfl|(simp only [List.length_drop,List.length_take];rfl)) ?_
         with_reducible refine (spec_PathClean.calls k1 _ _ x8_1 t300 _ ?side1 ?side2 A27.out).mono ?_
         (case side1=>repeat (first|exact (Kd.R_reads' HO_8.out).2.2|(with_reducible refine Kd.C_alloc ?_ _)|(with_reducible refine Kd.C_drewN ?_ _)|(with_reducible refine Kd.C_drew ?_)))
         (case side2=>exact (Kd.R_reads' HO_8.out).2.1)
         rintro e w55 ⟨v301,rfl,ho0,hb⟩
         refine ⟨_,rfl,?_⟩
         have n0_:=Aside0.mk (Kd.R_elder' (by (with_reducible repeat (first|apply Kd.R_alloc|apply Kd.R_drewN|apply Kd.R_drew));exact HO_8.out) (Kd.R_base ho0) hb)
         have n1_:=Aside0.mk (Kd.R_elder' (by (with_reducible repeat (first|apply Kd.R_alloc|apply Kd.R_drewN|apply Kd.R_drew));exact HO_9.out) (Kd.R_base ho0) hb)
         have n2_:=Aside0.mk (Kd.R_lower (Kd.R_new' (Kd.R_new' ho0 (Kd.R_lt (by (with_reducible repeat (first|apply Kd.R_alloc|apply Kd.R_drewN|apply Kd.R_drew));exact HO_8.out))) (Kd.R_lt (by (with_reducible repeat (first|apply Kd.R_alloc|apply Kd.R_drewN|apply Kd.R_drew));exact HO_9.out))) (below_size (by repeat (first|(with_reducible first|exact HB.out|apply below_alloc|apply pw_below_drewN|apply below_drew1|refine below_set ?_ GE278.out|refine below_set ?_ GE279.out)|exact HB.out))))
         have n3_:=Aside0.mk (blk_below (g:=gb278) (o:=.cells #[.string a0_0,.slice A0_1 l0_1.length c0_1,.bool a0_2,.string a0_3] 24 (0,0)) (by (with_reducible repeat (first|refine blk_drewN ?_ _|refine blk_drew ?_|refine blk_alloc ?_ _));exact BK278.out) hb)
         have n4_:=Aside0.mk (blk_below (g:=gb279) (o:=.cells #[.string x280000_1,.slice none 0 0,.bool x280002_1,.string x280003_1] 24 (0,0)) (by (with_reducible repeat (first|refine blk_drewN ?_ _|refine blk_drew ?_|refine blk_alloc ?_ _));exact BK279.out) hb)
         have n5_:=Aside0.mk (below_step (by repeat (first|(with_reducible first|exact HB.out|apply below_alloc|apply pw_below_drewN|apply below_drew1|refine below_set ?_ GE278.out|refine below_set ?_ GE279.out)|exact HB.out)) hb)
         clear HO_8
         clear HO_9
         clear BK278
         clear BK279
         clear HB
         have HO_8:=n0_
         have HO_9:=n1_
         have HO302:=n2_
         have BK278:=n3_
         have BK279:=n4_
         have HB:=n5_
         clear n0_ n1_ n2_ n3_ n4_ n5_
         (try clear hb)
         (try clear hb2)
         (try clear hk)
         (try clear hi)
         (try clear ho0)
         obtain ⟨Ao56,co56,eo56⟩:=Kd.R_slice HO302.out
         (first|subst eo56|(injection eo56 with f1_ f2_ f3_;have f4_:=f1_.symm;have f5_:=f3_.symm;clear f1_ f2_ f3_;subst f4_;subst f5_))
         refine hK.out _ _ ⟨(blk_cell BK278.out 0).trans rfl,(blk_cell BK278.out 1).trans rfl,(blk_cell BK278.out 2).trans rfl,(blk_cell BK278.out 3).trans rfl⟩ (fun hHeld=>?_)
         clear hK K
         refine norm_ (a':=?_) ?_ ?_
         rotate_left
         ·show Act.put _ (some 57) _ = _
          simp only [Act.put,List.setIfInBounds_toArray,List.set_cons_zero,List.set_cons_succ,i64_w,i32_w]
          rfl
         refine pure_ (i:=6) (N:=some 60) (v:=?_) (a':=?_) #[true,true,true,true,true,true,true,false,false] rfl rfl (any_of HT_.out (by kernel_rfl)) (fun _ _ _ h=>h) (Or.inl ⟨by rfl,?_⟩) ?_ ?_
         rotate_left
         ·intro w'
          go_simp
          with_reducible rfl
         rotate_left
         ·simp only [Act.put,List.setIfInBounds_toArray,List.set_cons_zero,List.set_cons_succ,i64_w,i32_w]
          rfl
         refine one_ (i:=7) (N:=some 15) #[true,true,true,true,true,true,true,true,false] rfl rfl (one_of HT_.out (by kernel_rfl)) (by decide) (fun K hK=>?_)
         refine box_step ?hg (N:=15) ?hd (cs:=#[.string (⟨#[]⟩:ByteArray),.slice none 0 0,.bool false,.string (⟨#[]⟩:ByteArray)]) (t:=24) ?hr ?_;(case hd=>rfl);(case hg=>rfl);(case hr=>first|(go_simp;done)|(go_simp;rfl))
         intro gb303 hg w57 hbox hb
         have n0_:=Aside0.mk (Kd.R_below (by (with_reducible repeat (first|apply Kd.R_alloc|apply Kd.R_drewN|apply Kd.R_drew));exact HO_8.out) hb)
         have n1_:=Aside0.mk (Kd.R_below (by (with_reducible repeat (first|apply Kd.R_alloc|apply Kd.R_drewN|apply Kd.R_drew));exact HO_9.out) hb)
         have n2_:=Aside0.mk (Kd.R_below (by (with_reducible repeat (first|apply Kd.R_alloc|apply Kd.R_drewN|apply Kd.R_drew));exact HO302.out) hb)
         have n3_:=Aside0.mk (blk_below (g:=gb278) (o:=.cells #[.string a0_0,.slice A0_1 l0_1.length c0_1,.bool a0_2,.string a0_3] 24 (0,0)) (by (with_reducible repeat (first|refine blk_drewN ?_ _|refine blk_drew ?_|refine blk_alloc ?_ _));exact BK278.out) hb)
         have n4_:=Aside0.mk (blk_below (g:=gb279) (o:=.cells #[.string x280000_1,.slice none 0 0,.bool x280002_1,.string x280003_1] 24 (0,0)) (by (with_reducible repeat (first|refine blk_drewN ?_ _|refine blk_drew ?_|refine blk_alloc ?_ _));exact BK279.out) hb)
         have n5_:=Aside0.mk (below_step (by repeat (first|(with_reducible first|exact HB.out|apply below_alloc|apply pw_below_drewN|apply below_drew1|refine below_set ?_ GE278.out|refine below_set ?_ GE279.out)|exact HB.out)) hb)
         have n6_:=Aside0.mk (hbox)
         have n7_:=Aside0.mk ((by rw [hg];exact (below_size (by repeat (first|(with_reducible first|exact HB.out|apply below_alloc|apply pw_below_drewN|apply below_drew1|refine below_set ?_ GE278.out|refine below_set ?_ GE279.out)|exact HB.out))):w.heap.size ≤ gb303))
         have n8_:=Aside0.mk ((by rw [hg];exact (below_size (by repeat (first|(with_reducible first|exact HB.out|apply below_alloc|apply pw_below_drewN|apply below_drew1|refine below_set ?_ GE278.out|refine below_set ?_ GE279.out)|exact HB.out))):w.heap.size ≤ gb303))
         have n9_:=Aside0.mk ((by rw [hg];exact Nat.ne_of_lt (blk_lt (g:=gb278) (o:=.cells #[.string a0_0,.slice A0_1 l0_1.length c0_1,.bool a0_2,.string a0_3] 24 (0,0)) (by (with_reducible repeat (first|refine blk_drewN ?_ _|refine blk_drew ?_|refine blk_alloc ?_ _));exact BK278.out)):gb278 ≠ gb303))
         have n10_:=Aside0.mk ((by rw [hg];exact Nat.ne_of_gt (blk_lt (g:=gb278) (o:=.cells #[.string a0_0,.slice A0_1 l0_1.length c0_1,.bool a0_2,.string a0_3] 24 (0,0)) (by (with_reducible repeat (first|refine blk_drewN ?_ _|refine blk_drew ?_|refine blk_alloc ?_ _));exact BK278.out)):gb303 ≠ gb278))
         have n11_:=Aside0.mk ((by rw [hg];exact Nat.ne_of_lt (blk_lt (g:=gb279) (o:=.cells #[.string x280000_1,.slice none 0 0,.bool x280002_1,.string x280003_1] 24 (0,0)) (by (with_reducible repeat (first|refine blk_drewN ?_ _|refine blk_drew ?_|refine blk_alloc ?_ _));exact BK279.out)):gb279 ≠ gb303))
         have n12_:=Aside0.mk ((by rw [hg];exact Nat.ne_of_gt (blk_lt (g:=gb279) (o:=.cells #[.string x280000_1,.slice none 0 0,.bool x280002_1,.string x280003_1] 24 (0,0)) (by (with_reducible repeat (first|refine blk_drewN ?_ _|refine blk_drew ?_|refine blk_alloc ?_ _));exact BK279.out)):gb303 ≠ gb279))
         clear HO_8
         clear HO_9
         clear HO302
         clear BK278
         clear BK279
         clear HB
         have HO_8:=n0_
         have HO_9:=n1_
         have HO302:=n2_
         have BK278:=n3_
         have BK279:=n4_
         have HB:=n5_
         have BK303:=n6_
         have GW303:=n7_
         have GE303:=n8_
         have NB278_303:=n9_
         have NB303_278:=n10_
         have NB279_303:=n11_
         have NB303_279:=n12_
         clear n0_ n1_ n2_ n3_ n4_ n5_ n6_ n7_ n8_ n9_ n10_ n11_ n12_
         clear hb hbox hg
         refine hK.out _ _ ⟨(blk_cell BK278.out 0).trans rfl,(blk_cell BK278.out 1).trans rfl,(blk_cell BK278.out 2).trans rfl,(blk_cell BK278.out 3).trans rfl⟩ (fun hHeld=>?_)
         clear hK K
         refine norm_ (a':=?_) ?_ ?_
         rotate_left
         ·show Act.put _ (some 15) _ = _
          simp only [Act.put,List.setIfInBounds_toArray,List.set_cons_zero,List.set_cons_succ,i64_w,i32_w]
          rfl
         exact norm_ (by simp only [putAll,Act.put,List.setIfInBounds_toArray,List.set_cons_zero,List.set_cons_succ]) (hCont (.slice Ao56 t300.length co56,gb303) _ ⟨hHeld,(by (with_reducible repeat (first|apply Kd.R_alloc|apply Kd.R_drewN|apply Kd.R_drew));exact Kd.R_mono HO302.out (fun _ hk=>⟨hk.1.2,hk.2⟩)),(by (with_reducible repeat (first|apply Kd.R_alloc|apply Kd.R_drewN|apply Kd.R_drew));exact Kd.R_mono HO_8.out (fun _ hk=>⟨hk.2,hk.1⟩)),(by (with_reducible repeat (first|apply Kd.R_alloc|apply Kd.R_drewN|apply Kd.R_drew));exact Kd.R_mono HO_9.out (fun _ hk=>⟨hk.2,hk.1⟩)),(by (with_reducible repeat (first|refine blk_drewN ?_ _|refine blk_drew ?_|refine blk_alloc ?_ _));exact BK278.out),(by (with_reducible repeat (first|refine blk_drewN ?_ _|refine blk_drew ?_|refine blk_alloc ?_ _));exact BK279.out),(by (with_reducible repeat (first|refine blk_drewN ?_ _|refine blk_drew ?_|refine blk_alloc ?_ _));exact BK303.out),GW303.out,GE303.out,NB278_303.out,NB303_278.out,NB279_303.out,NB303_279.out,(by repeat (first|(with_reducible first|exact HB.out|apply below_alloc|apply pw_below_drewN|apply below_drew1|refine below_set ?_ GE278.out|refine below_set ?_ GE279.out|refine below_set ?_ GE303.out)|exact HB.out))⟩)
        ·skip
         refine box_step ?hg (N:=15) ?hd (cs:=#[.string (⟨#[]⟩:ByteArray),.slice none 0 0,.bool false,.string (⟨#[]⟩:ByteArray)]) (t:=24) ?hr ?_;(case hd=>rfl);(case hg=>rfl);(case hr=>first|(go_simp;done)|(go_simp;rfl))
         intro gb303 hg w55 hbox hb
         have n0_:=Aside0.mk (Kd.R_below (by (with_reducible repeat (first|apply Kd.R_alloc|apply Kd.R_drewN|apply Kd.R_drew));exact HO_8.out) hb)
         have n1_:=Aside0.mk (Kd.R_below (by (with_reducible repeat (first|apply Kd.R_alloc|apply Kd.R_drewN|apply Kd.R_drew));exact HO_9.out) hb)
         have n2_:=Aside0.mk (blk_below (g:=gb278) (o:=.cells #[.string a0_0,.slice A0_1 l0_1.length c0_1,.bool a0_2,.string a0_3] 24 (0,0)) (by (with_reducible repeat (first|refine blk_drewN ?_ _|refine blk_drew ?_|refine blk_alloc ?_ _));exact BK278.out) hb)
         have n3_:=Aside0.mk (blk_below (g:=gb279) (o:=.cells #[.string x280000_1,.slice none 0 0,.bool x280002_1,.string x280003_1] 24 (0,0)) (by (with_reducible repeat (first|refine blk_drewN ?_ _|refine blk_drew ?_|refine blk_alloc ?_ _));exact BK279.out) hb)
         have n4_:=Aside0.mk (below_step (by repeat (first|(with_reducible first|exact HB.out|apply below_alloc|apply pw_below_drewN|apply below_drew1|refine below_set ?_ GE278.out|refine below_set ?_ GE279.out)|exact HB.out)) hb)
         have n5_:=Aside0.mk (hbox)
         have n6_:=Aside0.mk ((by rw [hg];exact (below_size (by repeat (first|(with_reducible first|exact HB.out|apply below_alloc|apply pw_below_drewN|apply below_drew1|refine below_set ?_ GE278.out|refine below_set ?_ GE279.out)|exact HB.out))):w.heap.size ≤ gb303))
         have n7_:=Aside0.mk ((by rw [hg];exact (below_size (by repeat (first|(with_reducible first|exact HB.out|apply below_alloc|apply pw_below_drewN|apply below_drew1|refine below_set ?_ GE278.out|refine below_set ?_ GE279.out)|exact HB.out))):w.heap.size ≤ gb303))
         have n8_:=Aside0.mk ((by rw [hg];exact Nat.ne_of_lt (blk_lt (g:=gb278) (o:=.cells #[.string a0_0,.slice A0_1 l0_1.length c0_1,.bool a0_2,.string a0_3] 24 (0,0)) (by (with_reducible repeat (first|refine blk_drewN ?_ _|refine blk_drew ?_|refine blk_alloc ?_ _));exact BK278.out)):gb278 ≠ gb303))
         have n9_:=Aside0.mk ((by rw [hg];exact Nat.ne_of_gt (blk_lt (g:=gb278) (o:=.cells #[.string a0_0,.slice A0_1 l0_1.length c0_1,.bool a0_2,.string a0_3] 24 (0,0)) (by (with_reducible repeat (first|refine blk_drewN ?_ _|refine blk_drew ?_|refine blk_alloc ?_ _));exact BK278.out)):gb303 ≠ gb278))
         have n10_:=Aside0.mk ((by rw [hg];exact Nat.ne_of_lt (blk_lt (g:=gb279) (o:=.cells #[.string x280000_1,.slice none 0 0,.bool x280002_1,.string x280003_1] 24 (0,0)) (by (with_reducible repeat (first|refine blk_drewN ?_ _|refine blk_drew ?_|refine blk_alloc ?_ _));exact BK279.out)):gb279 ≠ gb303))
         have n11_:=Aside0.mk ((by rw [hg];exact Nat.ne_of_gt (blk_lt (g:=gb279) (o:=.cells #[.string x280000_1,.slice none 0 0,.bool x280002_1,.string x280003_1] 24 (0,0)) (by (with_reducible repeat (first|refine blk_drewN ?_ _|refine blk_drew ?_|refine blk_alloc ?_ _));exact BK279.out)):gb303 ≠ gb279))
         clear HO_8
         clear HO_9
         clear BK278
         clear BK279
         clear HB
         have HO_8:=n0_
         have HO_9:=n1_
         have BK278:=n2_
         have BK279:=n3_
         have HB:=n4_
         have BK303:=n5_
         have GW303:=n6_
         have GE303:=n7_
         have NB278_303:=n8_
         have NB303_278:=n9_
         have NB279_303:=n10_
         have NB303_279:=n11_
         clear n0_ n1_ n2_ n3_ n4_ n5_ n6_ n7_ n8_ n9_ n10_ n11_
         clear hb hbox hg
         refine hK.out _ _ ⟨(blk_cell BK278.out 0).trans rfl,(blk_cell BK278.out 1).trans rfl,(blk_cell BK278.out 2).trans rfl,(blk_cell BK278.out 3).trans rfl⟩ (fun hHeld=>?_)
         clear hK K
         refine norm_ (a':=?_) ?_ ?_
         rotate_left
         ·show Act.put _ (some 15) _ = _
          simp only [Act.put,List.setIfInBounds_toArray,List.set_cons_zero,List.set_cons_succ,i64_w,i32_w]
          rfl
         refine one_ (i:=3) (N:=some 57) #[true,true,true,true,true,true,false,true,false] rfl rfl (one_of HT_.out (by kernel_rfl)) (by decide) (fun K hK=>?_)
         refine goes_ Tryd.func55 (by kernel_rfl) rfl #[.slice Ao53 x8_1.length co53] (by rfl) rfl rfl (by (try simp only [List.map_toArray,List.map_cons,List.map_nil]);first|done|rfl|(simp only [List.length_drop,List.length_take];rfl)) ?_
         with_reducible refine (spec_PathClean.calls k1 _ _ x8_1 t300 _ ?side1 ?side2 A27.out).mono ?_
         (case side1=>repeat (first|exact (Kd.R_reads' HO_8.out).2.2|(with_reducible refine Kd.C_alloc ?_ _)|(with_reducible refine Kd.C_drewN ?_ _)|(with_reducible refine Kd.C_drew ?_)))
         (case side2=>exact (Kd.R_reads' HO_8.out).2.1)
         rintro e w56 ⟨v301,rfl,ho0,hb⟩
         refine ⟨_,rfl,?_⟩
         have n0_:=Aside0.mk (Kd.R_elder' (by (with_reducible repeat (first|apply Kd.R_alloc|apply Kd.R_drewN|apply Kd.R_drew));exact HO_8.out) (Kd.R_base ho0) hb)
         have n1_:=Aside0.mk (Kd.R_elder' (by (with_reducible repeat (first|apply Kd.R_alloc|apply Kd.R_drewN|apply Kd.R_drew));exact HO_9.out) (Kd.R_base ho0) hb)
         have n2_:=Aside0.mk (Kd.R_lower (Kd.R_new' (Kd.R_new' ho0 (Kd.R_lt (by (with_reducible repeat (first|apply Kd.R_alloc|apply Kd.R_drewN|apply Kd.R_drew));exact HO_8.out))) (Kd.R_lt (by (with_reducible repeat (first|apply Kd.R_alloc|apply Kd.R_drewN|apply Kd.R_drew));exact HO_9.out))) (below_size (by repeat (first|(with_reducible first|exact HB.out|apply below_alloc|apply pw_below_drewN|apply below_drew1|refine below_set ?_ GE278.out|refine below_set ?_ GE279.out|refine below_set ?_ GE303.out)|exact HB.out))))
         have n3_:=Aside0.mk (blk_below (g:=gb278) (o:=.cells #[.string a0_0,.slice A0_1 l0_1.length c0_1,.bool a0_2,.string a0_3] 24 (0,0)) (by (with_reducible repeat (first|refine blk_drewN ?_ _|refine blk_drew ?_|refine blk_alloc ?_ _));exact BK278.out) hb)
         have n4_:=Aside0.mk (blk_below (g:=gb279) (o:=.cells #[.string x280000_1,.slice none 0 0,.bool x280002_1,.string x280003_1] 24 (0,0)) (by (with_reducible repeat (first|refine blk_drewN ?_ _|refine blk_drew ?_|refine blk_alloc ?_ _));exact BK279.out) hb)
         have n5_:=Aside0.mk (blk_below (g:=gb303) (o:=.cells #[.string (⟨#[]⟩:ByteArray),.slice none 0 0,.bool false,.string (⟨#[]⟩:ByteArray)] 24 (0,0)) (by (with_reducible repeat (first|refine blk_drewN ?_ _|refine blk_drew ?_|refine blk_alloc ?_ _));exact BK303.out) hb)
         have n6_:=Aside0.mk (below_step (by repeat (first|(with_reducible first|exact HB.out|apply below_alloc|apply pw_below_drewN|apply below_drew1|refine below_set ?_ GE278.out|refine below_set ?_ GE279.out|refine below_set ?_ GE303.out)|exact HB.out)) hb)
         clear HO_8
         clear HO_9
         clear BK278
         clear BK279
         clear BK303
         clear HB
         have HO_8:=n0_
         have HO_9:=n1_
         have HO302:=n2_
         have BK278:=n3_
         have BK279:=n4_
         have BK303:=n5_
         have HB:=n6_
         clear n0_ n1_ n2_ n3_ n4_ n5_ n6_
         (try clear hb)
         (try clear hb2)
         (try clear hk)
         (try clear hi)
         (try clear ho0)
         obtain ⟨Ao57,co57,eo57⟩:=Kd.R_slice HO302.out
         (first|subst eo57|(injection eo57 with f1_ f2_ f3_;have f4_:=f1_.symm;have f5_:=f3_.symm;clear f1_ f2_ f3_;subst f4_;subst f5_))
         refine hK.out _ _ ⟨(blk_cell BK278.out 0).trans rfl,(blk_cell BK278.out 1).trans rfl,(blk_cell BK278.out 2).trans rfl,(blk_cell BK278.out 3).trans rfl⟩ (fun hHeld=>?_)
         clear hK K
         refine norm_ (a':=?_) ?_ ?_
         rotate_left
         ·show Act.put _ (some 57) _ = _
          simp only [Act.put,List.setIfInBounds_toArray,List.set_cons_zero,List.set_cons_succ,i64_w,i32_w]
          rfl
         refine pure_ (i:=6) (N:=some 60) (v:=?_) (a':=?_) #[true,true,true,true,true,true,true,true,false] rfl rfl (any_of HT_.out (by kernel_rfl)) (fun _ _ _ h=>h) (Or.inl ⟨by rfl,?_⟩) ?_ ?_
         rotate_left
         ·intro w'
          go_simp
          with_reducible rfl
         rotate_left
         ·simp only [Act.put,List.setIfInBounds_toArray,List.set_cons_zero,List.set_cons_succ,i64_w,i32_w]
          rfl
         exact norm_ (by simp only [putAll,Act.put,List.setIfInBounds_toArray,List.set_cons_zero,List.set_cons_succ]) (hCont (.slice Ao57 t300.length co57,gb303) _ ⟨hHeld,(by (with_reducible repeat (first|apply Kd.R_alloc|apply Kd.R_drewN|apply Kd.R_drew));exact Kd.R_mono HO302.out (fun _ hk=>⟨hk.1.2,hk.2⟩)),(by (with_reducible repeat (first|apply Kd.R_alloc|apply Kd.R_drewN|apply Kd.R_drew));exact Kd.R_mono HO_8.out (fun _ hk=>⟨hk.2,hk.1⟩)),(by (with_reducible repeat (first|apply Kd.R_alloc|apply Kd.R_drewN|apply Kd.R_drew));exact Kd.R_mono HO_9.out (fun _ hk=>⟨hk.2,hk.1⟩)),(by (with_reducible repeat (first|refine blk_drewN ?_ _|refine blk_drew ?_|refine blk_alloc ?_ _));exact BK278.out),(by (with_reducible repeat (first|refine blk_drewN ?_ _|refine blk_drew ?_|refine blk_alloc ?_ _));exact BK279.out),(by (with_reducible repeat (first|refine blk_drewN ?_ _|refine blk_drew ?_|refine blk_alloc ?_ _));exact BK303.out),GW303.out,GE303.out,NB278_303.out,NB303_278.out,NB279_303.out,NB303_279.out,(by repeat (first|(with_reducible first|exact HB.out|apply below_alloc|apply pw_below_drewN|apply below_drew1|refine below_set ?_ GE278.out|refine below_set ?_ GE279.out|refine below_set ?_ GE303.out)|exact HB.out))⟩)
       rintro ⟨v301,gb303⟩ w58 ⟨hS_,h0_,h1_,h2_,h3_,h4_,h5_,h6_,h7_,h8_,h9_,h10_,h11_,h12_⟩
       have n0_:Aside0 (Kd.R Kd.string 9 w58 w.heap.size (fun k_=>some k_ ≠ (.slice Ao53 x8_1.length co53:Value).ownBlock ∧ some k_ ≠ (.slice Ao51 t289.length co51:Value).ownBlock) v301 t300):=⟨h0_⟩
       have n1_:Aside0 (Kd.R Kd.string 9 w58 w.heap.size (fun k_=>some k_ ≠ (v301:Value).ownBlock ∧ some k_ ≠ (.slice Ao51 t289.length co51:Value).ownBlock) (.slice Ao53 x8_1.length co53) x8_1):=⟨h1_⟩
       have n2_:Aside0 (Kd.R Kd.string 9 w58 w.heap.size (fun k_=>some k_ ≠ (v301:Value).ownBlock ∧ some k_ ≠ (.slice Ao53 x8_1.length co53:Value).ownBlock) (.slice Ao51 t289.length co51) t289):=⟨h2_⟩
       have n3_:Aside0 (w58.heap[gb278]? = some (.cells #[.string a0_0,.slice A0_1 l0_1.length c0_1,.bool a0_2,.string a0_3] 24 (0,0))):=⟨h3_⟩
       have n4_:Aside0 (w58.heap[gb279]? = some (.cells #[.string x280000_1,.slice none 0 0,.bool x280002_1,.string x280003_1] 24 (0,0))):=⟨h4_⟩
       have n5_:Aside0 (w58.heap[gb303]? = some (.cells #[.string (⟨#[]⟩:ByteArray),.slice none 0 0,.bool false,.string (⟨#[]⟩:ByteArray)] 24 (0,0))):=⟨h5_⟩
       have n6_:Aside0 (w.heap.size ≤ gb303):=⟨h6_⟩
       have n7_:Aside0 (w.heap.size ≤ gb303):=⟨h7_⟩
       have n8_:Aside0 (gb278 ≠ gb303):=⟨h8_⟩
       have n9_:Aside0 (gb303 ≠ gb278):=⟨h9_⟩
       have n10_:Aside0 (gb279 ≠ gb303):=⟨h10_⟩
       have n11_:Aside0 (gb303 ≠ gb279):=⟨h11_⟩
       have n12_:Aside0 (Below w.heap.size w w58):=⟨h12_⟩
       clear HO_8
       clear HO_9
       clear BK278
       clear BK279
       clear HB
       clear h0_ h1_ h2_ h3_ h4_ h5_ h6_ h7_ h8_ h9_ h10_ h11_ h12_
       have HO302:=n0_
       have HO_8:=n1_
       have HO_9:=n2_
       have BK278:=n3_
       have BK279:=n4_
       have BK303:=n5_
       have GW303:=n6_
       have GE303:=n7_
       have NB278_303:=n8_
       have NB303_278:=n9_
       have NB279_303:=n10_
       have NB303_279:=n11_
       have HB:=n12_
       clear n0_ n1_ n2_ n3_ n4_ n5_ n6_ n7_ n8_ n9_ n10_ n11_ n12_
       have hHeld:w58.cell? ⟨gb278,0,none⟩ = some (.string a0_0) ∧ w58.cell? ⟨gb278,1,none⟩ = some (.slice A0_1 l0_1.length c0_1) ∧ w58.cell? ⟨gb278,2,none⟩ = some (.bool a0_2) ∧ w58.cell? ⟨gb278,3,none⟩ = some (.string a0_3):=hS_
       obtain ⟨Ao59,co59,eo59⟩:=Kd.R_slice HO302.out
       (first|subst eo59|(injection eo59 with f1_ f2_ f3_;have f4_:=f1_.symm;have f5_:=f3_.symm;clear f1_ f2_ f3_;subst f4_;subst f5_))
       refine norm_ (a':=?_) ?_ ?_
       rotate_left
       ·simp only [putAll,Act.put,List.setIfInBounds_toArray,List.set_cons_zero,List.set_cons_succ]
        rfl
       refine one_ (i:=8) (N:=none) #[true,true,true,true,true,true,true,true,true] rfl rfl (one_of HT_.out (by kernel_rfl)) (by decide) (fun K hK=>?_)
       have hs60:w58.cell? ⟨gb303,0,none⟩ = some (.string (⟨#[]⟩:ByteArray)):=(blk_cell BK303.out 0).trans rfl
       have hfs60:=blk_frozen BK303.out 0
       have hns60_0:=NB278_303.out
       have hns60_1:=NB279_303.out
       have hms60_0:=NB303_278.out
       have hms60_1:=NB303_279.out
       have hs61:w58.cell? ⟨gb303,1,none⟩ = some (.slice none 0 0):=(blk_cell BK303.out 1).trans rfl
       have hfs61:=blk_frozen BK303.out 1
       have hns61_0:=NB278_303.out
       have hns61_1:=NB279_303.out
       have hms61_0:=NB303_278.out
       have hms61_1:=NB303_279.out
       have hs62:w58.cell? ⟨gb303,2,none⟩ = some (.bool false):=(blk_cell BK303.out 2).trans rfl
       have hfs62:=blk_frozen BK303.out 2
       have hns62_0:=NB278_303.out
       have hns62_1:=NB279_303.out
       have hms62_0:=NB303_278.out
       have hms62_1:=NB303_279.out
       have hs63:w58.cell? ⟨gb303,3,none⟩ = some (.string (⟨#[]⟩:ByteArray)):=(blk_cell BK303.out 3).trans rfl
       have hfs63:=blk_frozen BK303.out 3
       have hns63_0:=NB278_303.out
       have hns63_1:=NB279_303.out
       have hms63_0:=NB303_278.out
       have hms63_1:=NB303_279.out
       refine skip_ (w1:=?_) (by rfl) rfl ?_ ?_
       rotate_left
       ·go_simp
        rfl
       refine hK.out _ _ ⟨((cell_far (p:=⟨gb303,_,none⟩) NB278_303.out _).trans (((cell_far (p:=⟨gb303,_,none⟩) NB278_303.out _).trans (((cell_far (p:=⟨gb303,_,none⟩) NB278_303.out _).trans (((cell_far (p:=⟨gb303,_,none⟩) NB278_303.out _).trans (hHeld.1)))))))),((cell_far (p:=⟨gb303,_,none⟩) NB278_303.out _).trans (((cell_far (p:=⟨gb303,_,none⟩) NB278_303.out _).trans (((cell_far (p:=⟨gb303,_,none⟩) NB278_303.out _).trans (((cell_far (p:=⟨gb303,_,none⟩) NB278_303.out _).trans (hHeld.2.1)))))))),((cell_far (p:=⟨gb303,_,none⟩) NB278_303.out _).trans (((cell_far (p:=⟨gb303,_,none⟩) NB278_303.out _).trans (((cell_far (p:=⟨gb303,_,none⟩) NB278_303.out _).trans (((cell_far (p:=⟨gb303,_,none⟩) NB278_303.out _).trans (hHeld.2.2.1)))))))),((cell_far (p:=⟨gb303,_,none⟩) NB278_303.out _).trans (((cell_far (p:=⟨gb303,_,none⟩) NB278_303.out _).trans (((cell_far (p:=⟨gb303,_,none⟩) NB278_303.out _).trans (((cell_far (p:=⟨gb303,_,none⟩) NB278_303.out _).trans (hHeld.2.2.2))))))))⟩ (fun hHeld=>?_)
       clear hK K
       refine done_ (done_of HT_.out (by kernel_rfl)) ?_
       have hnb64:=NB303_278.out
       have hnc64:=NB278_303.out
       have hnb65:=NB303_279.out
       have hnc65:=NB279_303.out
       have hcz66_0:w58.cell? ⟨gb303,0,none⟩ = some (.string (⟨#[]⟩:ByteArray)):=(blk_cell BK303.out 0).trans rfl
       have hcz66_1:w58.cell? ⟨gb303,1,none⟩ = some (.slice none 0 0):=(blk_cell BK303.out 1).trans rfl
       have hcz66_2:w58.cell? ⟨gb303,2,none⟩ = some (.bool false):=(blk_cell BK303.out 2).trans rfl
       have hcz66_3:w58.cell? ⟨gb303,3,none⟩ = some (.string (⟨#[]⟩:ByteArray)):=(blk_cell BK303.out 3).trans rfl
       have hfz66_0:=blk_frozen BK303.out 0
       have hfz66_1:=blk_frozen BK303.out 1
       have hfz66_2:=blk_frozen BK303.out 2
       have hfz66_3:=blk_frozen BK303.out 3
       try go_wp2_with (first|(go_at_call 29;(with_reducible refine (spec_AddrOk.calls k1 a0_0 _ _ t300 t282 t298 false _ ?side1 ?side2 A29.out).mono ?_);(case side1=>refine (Kd.R_reads' (e:=9) (base:=w.heap.size) (ok:=fun k_=>(some k_ ≠ (.slice Ao53 x8_1.length co53:Value).ownBlock ∧ some k_ ≠ (.slice Ao51 t289.length co51:Value).ownBlock)) (n:=t300.length) (c:=co59) ?_).2.2;exact (by (with_reducible repeat (first|apply Kd.R_alloc|apply Kd.R_drewN|apply Kd.R_drew));exact (Kd.R_mono (Kd.R_far (p:=⟨gb303,3,none⟩) (Kd.R_far (p:=⟨gb303,2,none⟩) (Kd.R_far (p:=⟨gb303,1,none⟩) (Kd.R_far (p:=⟨gb303,0,none⟩) (Kd.R_types HO302.out BK303.out (by decide)) (fun _ hk=>hk.2) (.string a0_0)) (fun _ hk=>hk.2) (.slice Ao59 t300.length co59)) (fun _ hk=>hk.2) (.bool t282)) (fun _ hk=>hk.2) (.string t298)) (fun _ h_=>h_.1))));(case side2=>exact (Kd.R_reads' HO302.out).2.1);rintro e w67 ⟨rfl,hb⟩;have n0_:=Aside0.mk (Kd.R_below (by (with_reducible repeat (first|apply Kd.R_alloc|apply Kd.R_drewN|apply Kd.R_drew));exact (Kd.R_mono (Kd.R_far (p:=⟨gb303,3,none⟩) (Kd.R_far (p:=⟨gb303,2,none⟩) (Kd.R_far (p:=⟨gb303,1,none⟩) (Kd.R_far (p:=⟨gb303,0,none⟩) (Kd.R_types HO_8.out BK303.out (by decide)) (fun _ hk=>hk.2) (.string a0_0)) (fun _ hk=>hk.2) (.slice Ao59 t300.length co59)) (fun _ hk=>hk.2) (.bool t282)) (fun _ hk=>hk.2) (.string t298)) (fun _ h_=>h_.1))) hb);have n1_:=Aside0.mk (Kd.R_below (by (with_reducible repeat (first|apply Kd.R_alloc|apply Kd.R_drewN|apply Kd.R_drew));exact (Kd.R_mono (Kd.R_far (p:=⟨gb303,3,none⟩) (Kd.R_far (p:=⟨gb303,2,none⟩) (Kd.R_far (p:=⟨gb303,1,none⟩) (Kd.R_far (p:=⟨gb303,0,none⟩) (Kd.R_types HO_9.out BK303.out (by decide)) (fun _ hk=>hk.2) (.string a0_0)) (fun _ hk=>hk.2) (.slice Ao59 t300.length co59)) (fun _ hk=>hk.2) (.bool t282)) (fun _ hk=>hk.2) (.string t298)) (fun _ h_=>h_.1))) hb);have n2_:=Aside0.mk (Kd.R_below (by (with_reducible repeat (first|apply Kd.R_alloc|apply Kd.R_drewN|apply Kd.R_drew));exact (Kd.R_mono (Kd.R_far (p:=⟨gb303,3,none⟩) (Kd.R_far (p:=⟨gb303,2,none⟩) (Kd.R_far (p:=⟨gb303,1,none⟩) (Kd.R_far (p:=⟨gb303,0,none⟩) (Kd.R_types HO302.out BK303.out (by decide)) (fun _ hk=>hk.2) (.string a0_0)) (fun _ hk=>hk.2) (.slice Ao59 t300.length co59)) (fun _ hk=>hk.2) (.bool t282)) (fun _ hk=>hk.2) (.string t298)) (fun _ h_=>h_.1))) hb);have n3_:=Aside0.mk (blk_below (g:=gb278) (o:=.cells #[.string a0_0,.slice A0_1 l0_1.length c0_1,.bool a0_2,.string a0_3] 24 (0,0)) (by (with_reducible repeat (first|refine blk_drewN ?_ _|refine blk_drew ?_|refine blk_alloc ?_ _));refine blk_far ?_ NB278_303.out _;(with_reducible repeat (first|refine blk_drewN ?_ _|refine blk_drew ?_|refine blk_alloc ?_ _));refine blk_far ?_ NB278_303.out _;(with_reducible repeat (first|refine blk_drewN ?_ _|refine blk_drew ?_|refine blk_alloc ?_ _));refine blk_far ?_ NB278_303.out _;(with_reducible repeat (first|refine blk_drewN ?_ _|refine blk_drew ?_|refine blk_alloc ?_ _));refine blk_far ?_ NB278_303.out _;(with_reducible repeat (first|refine blk_drewN ?_ _|refine blk_drew ?_|refine blk_alloc ?_ _));exact BK278.out) hb);have n4_:=Aside0.mk (blk_below (g:=gb279) (o:=.cells #[.string x280000_1,.slice none 0 0,.bool x280002_1,.string x280003_1] 24 (0,0)) (by (with_reducible repeat (first|refine blk_drewN ?_ _|refine blk_drew ?_|refine blk_alloc ?_ _));refine blk_far ?_ NB279_303.out _;(with_reducible repeat (first|refine blk_drewN ?_ _|refine blk_drew ?_|refine blk_alloc ?_ _));refine blk_far ?_ NB279_303.out _;(with_reducible repeat (first|refine blk_drewN ?_ _|refine blk_drew ?_|refine blk_alloc ?_ _));refine blk_far ?_ NB279_303.out _;(with_reducible repeat (first|refine blk_drewN ?_ _|refine blk_drew ?_|refine blk_alloc ?_ _));refine blk_far ?_ NB279_303.out _;(with_reducible repeat (first|refine blk_drewN ?_ _|refine blk_drew ?_|refine blk_alloc ?_ _));exact BK279.out) hb);have n5_:=Aside0.mk (blk_below (g:=gb303) (o:=.cells #[.string a0_0,.slice Ao59 t300.length co59,.bool t282,.string t298] 24 (0,0)) (by (with_reducible repeat (first|refine blk_drewN ?_ _|refine blk_drew ?_|refine blk_alloc ?_ _));refine blk_put (cs:=#[.string a0_0,.slice Ao59 t300.length co59,.bool t282,.string (⟨#[]⟩:ByteArray)]) ?_ 3 _ rfl;(with_reducible repeat (first|refine blk_drewN ?_ _|refine blk_drew ?_|refine blk_alloc ?_ _));refine blk_put (cs:=#[.string a0_0,.slice Ao59 t300.length co59,.bool false,.string (⟨#[]⟩:ByteArray)]) ?_ 2 _ rfl;(with_reducible repeat (first|refine blk_drewN ?_ _|refine blk_drew ?_|refine blk_alloc ?_ _));refine blk_put (cs:=#[.string a0_0,.slice none 0 0,.bool false,.string (⟨#[]⟩:ByteArray)]) ?_ 1 _ rfl;(with_reducible repeat (first|refine blk_drewN ?_ _|refine blk_drew ?_|refine blk_alloc ?_ _));refine blk_put (cs:=#[.string (⟨#[]⟩:ByteArray),.slice none 0 0,.bool false,.string (⟨#[]⟩:ByteArray)]) ?_ 0 _ rfl;(with_reducible repeat (first|refine blk_drewN ?_ _|refine blk_drew ?_|refine blk_alloc ?_ _));exact BK303.out) hb);have n6_:=Aside0.mk (below_step (by repeat (first|(with_reducible first|exact HB.out|apply below_alloc|apply pw_below_drewN|apply below_drew1|refine below_set ?_ GE278.out|refine below_set ?_ GE279.out|refine below_set ?_ GE303.out)|exact HB.out)) hb);clear HO_8;clear HO_9;clear HO302;clear BK278;clear BK279;clear BK303;clear HB;have HO_8:=n0_;have HO_9:=n1_;have HO302:=n2_;have BK278:=n3_;have BK279:=n4_;have BK303:=n5_;have HB:=n6_;clear n0_ n1_ n2_ n3_ n4_ n5_ n6_;(try clear hb);(try clear hb2);(try clear hk);(try clear hi);have hnb68:=NB279_278.out;have hnc68:=NB278_279.out;have hcz69_0:w67.cell? ⟨gb279,0,none⟩ = some (.string x280000_1):=(blk_cell BK279.out 0).trans rfl;have hcz69_1:w67.cell? ⟨gb279,1,none⟩ = some (.slice none 0 0):=(blk_cell BK279.out 1).trans rfl;have hcz69_2:w67.cell? ⟨gb279,2,none⟩ = some (.bool x280002_1):=(blk_cell BK279.out 2).trans rfl;have hcz69_3:w67.cell? ⟨gb279,3,none⟩ = some (.string x280003_1):=(blk_cell BK279.out 3).trans rfl;have hfz69_0:=blk_frozen BK279.out 0;have hfz69_1:=blk_frozen BK279.out 1;have hfz69_2:=blk_frozen BK279.out 2;have hfz69_3:=blk_frozen BK279.out 3))
       refine bodyPost_ret (results_ct rfl _ _ gb279 24 #[.string (⟨#[]⟩:ByteArray),.slice none 0 0,.bool false,.string (⟨#[]⟩:ByteArray)] (0,0) _ rfl (by (with_reducible repeat (first|refine blk_drewN ?_ _|refine blk_drew ?_|refine blk_alloc ?_ _));refine blk_put (cs:=#[.string (⟨#[]⟩:ByteArray),.slice none 0 0,.bool false,.string x280003_1]) ?_ 3 _ rfl;(with_reducible repeat (first|refine blk_drewN ?_ _|refine blk_drew ?_|refine blk_alloc ?_ _));refine blk_put (cs:=#[.string (⟨#[]⟩:ByteArray),.slice none 0 0,.bool x280002_1,.string x280003_1]) ?_ 2 _ rfl;(with_reducible repeat (first|refine blk_drewN ?_ _|refine blk_drew ?_|refine blk_alloc ?_ _));refine blk_put (cs:=#[.string (⟨#[]⟩:ByteArray),.slice none 0 0,.bool x280002_1,.string x280003_1]) ?_ 1 _ rfl;(with_reducible repeat (first|refine blk_drewN ?_ _|refine blk_drew ?_|refine blk_alloc ?_ _));refine blk_put (cs:=#[.string x280000_1,.slice none 0 0,.bool x280002_1,.string x280003_1]) ?_ 0 _ rfl;(with_reducible repeat (first|refine blk_drewN ?_ _|refine blk_drew ?_|refine blk_alloc ?_ _));exact BK279.out) Tryd.underlying24 rfl (by kernel_rfl)) rfl ?_
       exact ⟨_,by first|rfl|(simp <;> rfl)|(simp [*] <;> rfl),by first|exact Kd.R_nil _ _ _ _ _|exact Kd.N_nil _ _ _ _ _|exact Kd.V_nil _ _ _ _ _|exact Kd.Q_nil _ _ _ _ _|exact Kd.S_nil _ _ _ _ _,by repeat (first|(with_reducible first|exact HB.out|apply below_alloc|apply pw_below_drewN|apply below_drew1|refine below_set ?_ GE278.out|refine below_set ?_ GE279.out|refine below_set ?_ GE303.out)|exact HB.out)⟩
     ·replace c28:=Bool.eq_false_iff.mpr c28
      subst c28
      have H1:(some ((⟨#[]⟩:ByteArray),([]:List ByteArray),false,(⟨#[]⟩:ByteArray),false)) = some (r1,r2,r3,r4,r5):=by rw [if_neg (show ¬ (false = true) by decide)] at H;exact H
      clear H
      have H:=H1
      clear H1
      simp only [Option.some.injEq,Prod.mk.injEq] at H
      obtain ⟨rfl,rfl,rfl,rfl,rfl⟩:=H
      obtain ⟨Ao70,co70,eo70⟩:=Kd.R_slice HO_9.out
      subst eo70
      try go_wp2_with (first|((with_reducible refine gate_callee (f:=54) rfl ?_);refine goesL_ (some 51) rfl rfl Tryd.func54 (by kernel_rfl) rfl #[.string t281] rfl (by (try simp only [List.map_toArray,List.map_cons,List.map_nil]);first|done|rfl|(simp only [List.length_drop,List.length_take];rfl)) ?_;(with_reducible refine (spec_EscNorm.calls k1 t281 t298 false _ A26.out).mono ?_);rintro e w71 ⟨rfl,hb⟩;refine ⟨_,rfl,?_⟩;have n0_:=Aside0.mk (Kd.R_below (by (with_reducible repeat (first|apply Kd.R_alloc|apply Kd.R_drewN|apply Kd.R_drew));exact HO_8.out) hb);have n1_:=Aside0.mk (Kd.R_below (by (with_reducible repeat (first|apply Kd.R_alloc|apply Kd.R_drewN|apply Kd.R_drew));exact HO_9.out) hb);have n2_:=Aside0.mk (blk_below (g:=gb278) (o:=.cells #[.string a0_0,.slice A0_1 l0_1.length c0_1,.bool a0_2,.string a0_3] 24 (0,0)) (by (with_reducible repeat (first|refine blk_drewN ?_ _|refine blk_drew ?_|refine blk_alloc ?_ _));exact BK278.out) hb);have n3_:=Aside0.mk (blk_below (g:=gb279) (o:=.cells #[.string x280000_1,.slice none 0 0,.bool x280002_1,.string x280003_1] 24 (0,0)) (by (with_reducible repeat (first|refine blk_drewN ?_ _|refine blk_drew ?_|refine blk_alloc ?_ _));exact BK279.out) hb);have n4_:=Aside0.mk (below_step (by repeat (first|(with_reducible first|exact HB.out|apply below_alloc|apply pw_below_drewN|apply below_drew1|refine below_set ?_ GE278.out|refine below_set ?_ GE279.out)|exact HB.out)) hb);clear HO_8;clear HO_9;clear BK278;clear BK279;clear HB;have HO_8:=n0_;have HO_9:=n1_;have BK278:=n2_;have BK279:=n3_;have HB:=n4_;clear n0_ n1_ n2_ n3_ n4_;(try clear hb);(try clear hb2);(try clear hk);(try clear hi);obtain ⟨Ao72,co72,eo72⟩:=Kd.R_slice HO_8.out;subst eo72))
      have n0_:=Aside0.mk (Kd.R_drew HO_8.out)
      have n1_:=Aside0.mk (Kd.R_drew HO_9.out)
      have n2_:=Aside0.mk (blk_drew BK278.out)
      have n3_:=Aside0.mk (blk_drew BK279.out)
      have n4_:=Aside0.mk (below_drew1 HB.out)
      clear HO_8
      clear HO_9
      clear BK278
      clear BK279
      clear HB
      have HO_8:=n0_
      have HO_9:=n1_
      have BK278:=n2_
      have BK279:=n3_
      have HB:=n4_
      clear n0_ n1_ n2_ n3_ n4_
      refine start_ (n:=9) (S:=fun w'=>w'.cell? ⟨gb278,0,none⟩ = some (.string a0_0) ∧ w'.cell? ⟨gb278,1,none⟩ = some (.slice A0_1 l0_1.length c0_1) ∧ w'.cell? ⟨gb278,2,none⟩ = some (.bool a0_2) ∧ w'.cell? ⟨gb278,3,none⟩ = some (.string a0_3)) (ds:=[]) #[false,false,false,false,false,false,false,false,false] (by kernel_rfl) rfl rfl ⟨(blk_cell BK278.out 0).trans rfl,(blk_cell BK278.out 1).trans rfl,(blk_cell BK278.out 2).trans rfl,(blk_cell BK278.out 3).trans rfl⟩ (fun hHeld=>?_);refine with_tabW spec_l1Way.tab12 spec_l1Way.bits12 (fun HT_ HW_=>?_)
      generalize w71.drew = w73 at HO_8 HO_9 BK278 BK279 HB hHeld ⊢
      refine pure_ (i:=0) (N:=some 54) (v:=?_) (a':=?_) #[true,false,false,false,false,false,false,false,false] rfl rfl (any_of HT_.out (by kernel_rfl)) (fun _ _ _ h=>h) (Or.inl ⟨by rfl,?_⟩) ?_ ?_
      rotate_left
      ·intro w'
       go_simp
       with_reducible rfl
      rotate_left
      ·simp only [Act.put,List.setIfInBounds_toArray,List.set_cons_zero,List.set_cons_succ,i64_w,i32_w]
       rfl
      refine pure_ (i:=2) (N:=some 56) (v:=?_) (a':=?_) #[true,false,true,false,false,false,false,false,false] rfl rfl (any_of HT_.out (by kernel_rfl)) (fun _ _ _ h=>h) (Or.inl ⟨by rfl,?_⟩) ?_ ?_
      rotate_left
      ·intro w'
       go_simp
       with_reducible rfl
      rotate_left
      ·simp only [Act.put,List.setIfInBounds_toArray,List.set_cons_zero,List.set_cons_succ,i64_w,i32_w]
       rfl
      refine pure_ (i:=4) (N:=some 58) (v:=?_) (a':=?_) #[true,false,true,false,true,false,false,false,false] rfl rfl (any_of HT_.out (by kernel_rfl)) (fun _ _ _ h=>h) (Or.inl ⟨by rfl,?_⟩) ?_ ?_
      rotate_left
      ·intro w'
       go_simp
       with_reducible rfl
      rotate_left
      ·simp only [Act.put,List.setIfInBounds_toArray,List.set_cons_zero,List.set_cons_succ,i64_w,i32_w]
       rfl
      refine pure_ (i:=5) (N:=some 59) (v:=?_) (a':=?_) #[true,false,true,false,true,true,false,false,false] rfl rfl (any_of HT_.out (by kernel_rfl)) (fun _ _ _ h=>h) (Or.inl ⟨by rfl,?_⟩) ?_ ?_
      rotate_left
      ·intro w'
       go_simp
       with_reducible rfl
      rotate_left
      ·simp only [Act.put,List.setIfInBounds_toArray,List.set_cons_zero,List.set_cons_succ,i64_w,i32_w]
       rfl
      refine take_ (i:=1) (N:=some 55) (v:=?_) (a':=?_) #[true,true,true,false,true,true,false,false,false] rfl rfl (take_ofW HT_.out HW_.out (by kernel_rfl)) (fun _ _ _ h=>h) (Or.inl ⟨by rfl,?_⟩) hHeld ?_ ?_
      rotate_left
      ·rintro w' ⟨s0,s1,s2,s3⟩
       go_simp
       with_reducible rfl
      rotate_left
      ·simp only [Act.put,List.setIfInBounds_toArray,List.set_cons_zero,List.set_cons_succ,i64_w,i32_w]
       rfl
      refine join_ (σ:=Value × Nat) 1 #[true,true,true,true,true,true,true,true,false] (fun s_=>[(57,s_.1),(15,.pointer (some ⟨s_.2,0,none⟩)),(60,.agg #[.string a0_0,s_.1,.bool t282,.string t298])]) (fun s_ w'=>(w'.cell? ⟨gb278,0,none⟩ = some (.string a0_0) ∧ w'.cell? ⟨gb278,1,none⟩ = some (.slice A0_1 l0_1.length c0_1) ∧ w'.cell? ⟨gb278,2,none⟩ = some (.bool a0_2) ∧ w'.cell? ⟨gb278,3,none⟩ = some (.string a0_3)) ∧ (Kd.R Kd.string 9 w' w.heap.size (fun k_=>some k_ ≠ (.slice Ao72 x8_1.length co72:Value).ownBlock ∧ some k_ ≠ (.slice Ao70 t289.length co70:Value).ownBlock) s_.1 t300) ∧ (Kd.R Kd.string 9 w' w.heap.size (fun k_=>some k_ ≠ (s_.1:Value).ownBlock ∧ some k_ ≠ (.slice Ao70 t289.length co70:Value).ownBlock) (.slice Ao72 x8_1.length co72) x8_1) ∧ (Kd.R Kd.string 9 w' w.heap.size (fun k_=>some k_ ≠ (s_.1:Value).ownBlock ∧ some k_ ≠ (.slice Ao72 x8_1.length co72:Value).ownBlock) (.slice Ao70 t289.length co70) t289) ∧ (w'.heap[gb278]? = some (.cells #[.string a0_0,.slice A0_1 l0_1.length c0_1,.bool a0_2,.string a0_3] 24 (0,0))) ∧ (w'.heap[gb279]? = some (.cells #[.string x280000_1,.slice none 0 0,.bool x280002_1,.string x280003_1] 24 (0,0))) ∧ (w'.heap[s_.2]? = some (.cells #[.string (⟨#[]⟩:ByteArray),.slice none 0 0,.bool false,.string (⟨#[]⟩:ByteArray)] 24 (0,0))) ∧ (w.heap.size ≤ s_.2) ∧ (w.heap.size ≤ s_.2) ∧ (gb278 ≠ s_.2) ∧ (s_.2 ≠ gb278) ∧ (gb279 ≠ s_.2) ∧ (s_.2 ≠ gb279) ∧ (Below w.heap.size w w')) ?_ ?_
      rotate_left
      ·intro hCont
       refine two_ (i:=3) (j:=7) (Ni:=some 57) (Nj:=some 15) #[true,true,true,true,true,true,false,false,false] #[true,true,true,false,true,true,false,true,false] rfl rfl rfl rfl (two_of HT_.out (by kernel_rfl)) (by decide) (by decide) (fun K hK=>?_) (fun K hK=>?_)
       ·skip
        refine goes_ Tryd.func55 (by kernel_rfl) rfl #[.slice Ao72 x8_1.length co72] (by rfl) rfl rfl (by (try simp only [List.map_toArray,List.map_cons,List.map_nil]);first|done|rfl|(simp only [List.length_drop,List.length_take];rfl)) ?_
        with_reducible refine (spec_PathClean.calls k1 _ _ x8_1 t300 _ ?side1 ?side2 A27.out).mono ?_
        (case side1=>repeat (first|exact (Kd.R_reads' HO_8.out).2.2|(with_reducible refine Kd.C_alloc ?_ _)|(with_reducible refine Kd.C_drewN ?_ _)|(with_reducible refine Kd.C_drew ?_)))
        (case side2=>exact (Kd.R_reads' HO_8.out).2.1)
        rintro e w74 ⟨v301,rfl,ho0,hb⟩
        refine ⟨_,rfl,?_⟩
        have n0_:=Aside0.mk (Kd.R_elder' (by (with_reducible repeat (first|apply Kd.R_alloc|apply Kd.R_drewN|apply Kd.R_drew));exact HO_8.out) (Kd.R_base ho0) hb)
        have n1_:=Aside0.mk (Kd.R_elder' (by (with_reducible repeat (first|apply Kd.R_alloc|apply Kd.R_drewN|apply Kd.R_drew));exact HO_9.out) (Kd.R_base ho0) hb)
        have n2_:=Aside0.mk (Kd.R_lower (Kd.R_new' (Kd.R_new' ho0 (Kd.R_lt (by (with_reducible repeat (first|apply Kd.R_alloc|apply Kd.R_drewN|apply Kd.R_drew));exact HO_8.out))) (Kd.R_lt (by (with_reducible repeat (first|apply Kd.R_alloc|apply Kd.R_drewN|apply Kd.R_drew));exact HO_9.out))) (below_size (by repeat (first|(with_reducible first|exact HB.out|apply below_alloc|apply pw_below_drewN|apply below_drew1|refine below_set ?_ GE278.out|refine below_set ?_ GE279.out)|exact HB.out))))
        have n3_:=Aside0.mk (blk_below (g:=gb278) (o:=.cells #[.string a0_0,.slice A0_1 l0_1.length c0_1,.bool a0_2,.string a0_3] 24 (0,0)) (by (with_reducible repeat (first|refine blk_drewN ?_ _|refine blk_drew ?_|refine blk_alloc ?_ _));exact BK278.out) hb)
        have n4_:=Aside0.mk (blk_below (g:=gb279) (o:=.cells #[.string x280000_1,.slice none 0 0,.bool x280002_1,.string x280003_1] 24 (0,0)) (by (with_reducible repeat (first|refine blk_drewN ?_ _|refine blk_drew ?_|refine blk_alloc ?_ _));exact BK279.out) hb)
        have n5_:=Aside0.mk (below_step (by repeat (first|(with_reducible first|exact HB.out|apply below_alloc|apply pw_below_drewN|apply below_drew1|refine below_set ?_ GE278.out|refine below_set ?_ GE279.out)|exact HB.out)) hb)
        clear HO_8
        clear HO_9
        clear BK278
        clear BK279
        clear HB
        have HO_8:=n0_
        have HO_9:=n1_
        have HO302:=n2_
        have BK278:=n3_
        have BK279:=n4_
        have HB:=n5_
        clear n0_ n1_ n2_ n3_ n4_ n5_
        (try clear hb)
        (try clear hb2)
        (try clear hk)
        (try clear hi)
        (try clear ho0)
        obtain ⟨Ao75,co75,eo75⟩:=Kd.R_slice HO302.out
        (first|subst eo75|(injection eo75 with f1_ f2_ f3_;have f4_:=f1_.symm;have f5_:=f3_.symm;clear f1_ f2_ f3_;subst f4_;subst f5_))
        refine hK.out _ _ ⟨(blk_cell BK278.out 0).trans rfl,(blk_cell BK278.out 1).trans rfl,(blk_cell BK278.out 2).trans rfl,(blk_cell BK278.out 3).trans rfl⟩ (fun hHeld=>?_)
        clear hK K
        refine norm_ (a':=?_) ?_ ?_
        rotate_left
        ·show Act.put _ (some 57) _ = _
         simp only [Act.put,List.setIfInBounds_toArray,List.set_cons_zero,List.set_cons_succ,i64_w,i32_w]
         rfl
        refine pure_ (i:=6) (N:=some 60) (v:=?_) (a':=?_) #[true,true,true,true,true,true,true,false,false] rfl rfl (any_of HT_.out (by kernel_rfl)) (fun _ _ _ h=>h) (Or.inl ⟨by rfl,?_⟩) ?_ ?_
        rotate_left
        ·intro w'
         go_simp
         with_reducible rfl
        rotate_left
        ·simp only [Act.put,List.setIfInBounds_toArray,List.set_cons_zero,List.set_cons_succ,i64_w,i32_w]
         rfl
        refine one_ (i:=7) (N:=some 15) #[true,true,true,true,true,true,true,true,false] rfl rfl (one_of HT_.out (by kernel_rfl)) (by decide) (fun K hK=>?_)
        refine box_step ?hg (N:=15) ?hd (cs:=#[.string (⟨#[]⟩:ByteArray),.slice none 0 0,.bool false,.string (⟨#[]⟩:ByteArray)]) (t:=24) ?hr ?_;(case hd=>rfl);(case hg=>rfl);(case hr=>first|(go_simp;done)|(go_simp;rfl))
        intro gb303 hg w76 hbox hb
        have n0_:=Aside0.mk (Kd.R_below (by (with_reducible repeat (first|apply Kd.R_alloc|apply Kd.R_drewN|apply Kd.R_drew));exact HO_8.out) hb)
        have n1_:=Aside0.mk (Kd.R_below (by (with_reducible repeat (first|apply Kd.R_alloc|apply Kd.R_drewN|apply Kd.R_drew));exact HO_9.out) hb)
        have n2_:=Aside0.mk (Kd.R_below (by (with_reducible repeat (first|apply Kd.R_alloc|apply Kd.R_drewN|apply Kd.R_drew));exact HO302.out) hb)
        have n3_:=Aside0.mk (blk_below (g:=gb278) (o:=.cells #[.string a0_0,.slice A0_1 l0_1.length c0_1,.bool a0_2,.string a0_3] 24 (0,0)) (by (with_reducible repeat (first|refine blk_drewN ?_ _|refine blk_drew ?_|refine blk_alloc ?_ _));exact BK278.out) hb)
        have n4_:=Aside0.mk (blk_below (g:=gb279) (o:=.cells #[.string x280000_1,.slice none 0 0,.bool x280002_1,.string x280003_1] 24 (0,0)) (by (with_reducible repeat (first|refine blk_drewN ?_ _|refine blk_drew ?_|refine blk_alloc ?_ _));exact BK279.out) hb)
        have n5_:=Aside0.mk (below_step (by repeat (first|(with_reducible first|exact HB.out|apply below_alloc|apply pw_below_drewN|apply below_drew1|refine below_set ?_ GE278.out|refine below_set ?_ GE279.out)|exact HB.out)) hb)
        have n6_:=Aside0.mk (hbox)
        have n7_:=Aside0.mk ((by rw [hg];exact (below_size (by repeat (first|(with_reducible first|exact HB.out|apply below_alloc|apply pw_below_drewN|apply below_drew1|refine below_set ?_ GE278.out|refine below_set ?_ GE279.out)|exact HB.out))):w.heap.size ≤ gb303))
        have n8_:=Aside0.mk ((by rw [hg];exact (below_size (by repeat (first|(with_reducible first|exact HB.out|apply below_alloc|apply pw_below_drewN|apply below_drew1|refine below_set ?_ GE278.out|refine below_set ?_ GE279.out)|exact HB.out))):w.heap.size ≤ gb303))
        have n9_:=Aside0.mk ((by rw [hg];exact Nat.ne_of_lt (blk_lt (g:=gb278) (o:=.cells #[.string a0_0,.slice A0_1 l0_1.length c0_1,.bool a0_2,.string a0_3] 24 (0,0)) (by (with_reducible repeat (first|refine blk_drewN ?_ _|refine blk_drew ?_|refine blk_alloc ?_ _));exact BK278.out)):gb278 ≠ gb303))
        have n10_:=Aside0.mk ((by rw [hg];exact Nat.ne_of_gt (blk_lt (g:=gb278) (o:=.cells #[.string a0_0,.slice A0_1 l0_1.length c0_1,.bool a0_2,.string a0_3] 24 (0,0)) (by (with_reducible repeat (first|refine blk_drewN ?_ _|refine blk_drew ?_|refine blk_alloc ?_ _));exact BK278.out)):gb303 ≠ gb278))
        have n11_:=Aside0.mk ((by rw [hg];exact Nat.ne_of_lt (blk_lt (g:=gb279) (o:=.cells #[.string x280000_1,.slice none 0 0,.bool x280002_1,.string x280003_1] 24 (0,0)) (by (with_reducible repeat (first|refine blk_drewN ?_ _|refine blk_drew ?_|refine blk_alloc ?_ _));exact BK279.out)):gb279 ≠ gb303))
        have n12_:=Aside0.mk ((by rw [hg];exact Nat.ne_of_gt (blk_lt (g:=gb279) (o:=.cells #[.string x280000_1,.slice none 0 0,.bool x280002_1,.string x280003_1] 24 (0,0)) (by (with_reducible repeat (first|refine blk_drewN ?_ _|refine blk_drew ?_|refine blk_alloc ?_ _));exact BK279.out)):gb303 ≠ gb279))
        clear HO_8
        clear HO_9
        clear HO302
        clear BK278
        clear BK279
        clear HB
        have HO_8:=n0_
        have HO_9:=n1_
        have HO302:=n2_
        have BK278:=n3_
        have BK279:=n4_
        have HB:=n5_
        have BK303:=n6_
        have GW303:=n7_
        have GE303:=n8_
        have NB278_303:=n9_
        have NB303_278:=n10_
        have NB279_303:=n11_
        have NB303_279:=n12_
        clear n0_ n1_ n2_ n3_ n4_ n5_ n6_ n7_ n8_ n9_ n10_ n11_ n12_
        clear hb hbox hg
        refine hK.out _ _ ⟨(blk_cell BK278.out 0).trans rfl,(blk_cell BK278.out 1).trans rfl,(blk_cell BK278.out 2).trans rfl,(blk_cell BK278.out 3).trans rfl⟩ (fun hHeld=>?_)
        clear hK K
        refine norm_ (a':=?_) ?_ ?_
        rotate_left
        ·show Act.put _ (some 15) _ = _
         simp only [Act.put,List.setIfInBounds_toArray,List.set_cons_zero,List.set_cons_succ,i64_w,i32_w]
         rfl
        exact norm_ (by simp only [putAll,Act.put,List.setIfInBounds_toArray,List.set_cons_zero,List.set_cons_succ]) (hCont (.slice Ao75 t300.length co75,gb303) _ ⟨hHeld,(by (with_reducible repeat (first|apply Kd.R_alloc|apply Kd.R_drewN|apply Kd.R_drew));exact Kd.R_mono HO302.out (fun _ hk=>⟨hk.1.2,hk.2⟩)),(by (with_reducible repeat (first|apply Kd.R_alloc|apply Kd.R_drewN|apply Kd.R_drew));exact Kd.R_mono HO_8.out (fun _ hk=>⟨hk.2,hk.1⟩)),(by (with_reducible repeat (first|apply Kd.R_alloc|apply Kd.R_drewN|apply Kd.R_drew));exact Kd.R_mono HO_9.out (fun _ hk=>⟨hk.2,hk.1⟩)),(by (with_reducible repeat (first|refine blk_drewN ?_ _|refine blk_drew ?_|refine blk_alloc ?_ _));exact BK278.out),(by (with_reducible repeat (first|refine blk_drewN ?_ _|refine blk_drew ?_|refine blk_alloc ?_ _));exact BK279.out),(by (with_reducible repeat (first|refine blk_drewN ?_ _|refine blk_drew ?_|refine blk_alloc ?_ _));exact BK303.out),GW303.out,GE303.out,NB278_303.out,NB303_278.out,NB279_303.out,NB303_279.out,(by repeat (first|(with_reducible first|exact HB.out|apply below_alloc|apply pw_below_drewN|apply below_drew1|refine below_set ?_ GE278.out|refine below_set ?_ GE279.out|refine below_set ?_ GE303.out)|exact HB.out))⟩)
       ·skip
        refine box_step ?hg (N:=15) ?hd (cs:=#[.string (⟨#[]⟩:ByteArray),.slice none 0 0,.bool false,.string (⟨#[]⟩:ByteArray)]) (t:=24) ?hr ?_;(case hd=>rfl);(case hg=>rfl);(case hr=>first|(go_simp;done)|(go_simp;rfl))
        intro gb303 hg w74 hbox hb
        have n0_:=Aside0.mk (Kd.R_below (by (with_reducible repeat (first|apply Kd.R_alloc|apply Kd.R_drewN|apply Kd.R_drew));exact HO_8.out) hb)
        have n1_:=Aside0.mk (Kd.R_below (by (with_reducible repeat (first|apply Kd.R_alloc|apply Kd.R_drewN|apply Kd.R_drew));exact HO_9.out) hb)
        have n2_:=Aside0.mk (blk_below (g:=gb278) (o:=.cells #[.string a0_0,.slice A0_1 l0_1.length c0_1,.bool a0_2,.string a0_3] 24 (0,0)) (by (with_reducible repeat (first|refine blk_drewN ?_ _|refine blk_drew ?_|refine blk_alloc ?_ _));exact BK278.out) hb)
        have n3_:=Aside0.mk (blk_below (g:=gb279) (o:=.cells #[.string x280000_1,.slice none 0 0,.bool x280002_1,.string x280003_1] 24 (0,0)) (by (with_reducible repeat (first|refine blk_drewN ?_ _|refine blk_drew ?_|refine blk_alloc ?_ _));exact BK279.out) hb)
        have n4_:=Aside0.mk (below_step (by repeat (first|(with_reducible first|exact HB.out|apply below_alloc|apply pw_below_drewN|apply below_drew1|refine below_set ?_ GE278.out|refine below_set ?_ GE279.out)|exact HB.out)) hb)
        have n5_:=Aside0.mk (hbox)
        have n6_:=Aside0.mk ((by rw [hg];exact (below_size (by repeat (first|(with_reducible first|exact HB.out|apply below_alloc|apply pw_below_drewN|apply below_drew1|refine below_set ?_ GE278.out|refine below_set ?_ GE279.out)|exact HB.out))):w.heap.size ≤ gb303))
        have n7_:=Aside0.mk ((by rw [hg];exact (below_size (by repeat (first|(with_reducible first|exact HB.out|apply below_alloc|apply pw_below_drewN|apply below_drew1|refine below_set ?_ GE278.out|refine below_set ?_ GE279.out)|exact HB.out))):w.heap.size ≤ gb303))
        have n8_:=Aside0.mk ((by rw [hg];exact Nat.ne_of_lt (blk_lt (g:=gb278) (o:=.cells #[.string a0_0,.slice A0_1 l0_1.length c0_1,.bool a0_2,.string a0_3] 24 (0,0)) (by (with_reducible repeat (first|refine blk_drewN ?_ _|refine blk_drew ?_|refine blk_alloc ?_ _));exact BK278.out)):gb278 ≠ gb303))
        have n9_:=Aside0.mk ((by rw [hg];exact Nat.ne_of_gt (blk_lt (g:=gb278) (o:=.cells #[.string a0_0,.slice A0_1 l0_1.length c0_1,.bool a0_2,.string a0_3] 24 (0,0)) (by (with_reducible repeat (first|refine blk_drewN ?_ _|refine blk_drew ?_|refine blk_alloc ?_ _));exact BK278.out)):gb303 ≠ gb278))
        have n10_:=Aside0.mk ((by rw [hg];exact Nat.ne_of_lt (blk_lt (g:=gb279) (o:=.cells #[.string x280000_1,.slice none 0 0,.bool x280002_1,.string x280003_1] 24 (0,0)) (by (with_reducible repeat (first|refine blk_drewN ?_ _|refine blk_drew ?_|refine blk_alloc ?_ _));exact BK279.out)):gb279 ≠ gb303))
        have n11_:=Aside0.mk ((by rw [hg];exact Nat.ne_of_gt (blk_lt (g:=gb279) (o:=.cells #[.string x280000_1,.slice none 0 0,.bool x280002_1,.string x280003_1] 24 (0,0)) (by (with_reducible repeat (first|refine blk_drewN ?_ _|refine blk_drew ?_|refine blk_alloc ?_ _));exact BK279.out)):gb303 ≠ gb279))
        clear HO_8
        clear HO_9
        clear BK278
        clear BK279
        clear HB
        have HO_8:=n0_
        have HO_9:=n1_
        have BK278:=n2_
        have BK279:=n3_
        have HB:=n4_
        have BK303:=n5_
        have GW303:=n6_
        have GE303:=n7_
        have NB278_303:=n8_
        have NB303_278:=n9_
        have NB279_303:=n10_
        have NB303_279:=n11_
        clear n0_ n1_ n2_ n3_ n4_ n5_ n6_ n7_ n8_ n9_ n10_ n11_
        clear hb hbox hg
        refine hK.out _ _ ⟨(blk_cell BK278.out 0).trans rfl,(blk_cell BK278.out 1).trans rfl,(blk_cell BK278.out 2).trans rfl,(blk_cell BK278.out 3).trans rfl⟩ (fun hHeld=>?_)
        clear hK K
        refine norm_ (a':=?_) ?_ ?_
        rotate_left
        ·show Act.put _ (some 15) _ = _
         simp only [Act.put,List.setIfInBounds_toArray,List.set_cons_zero,List.set_cons_succ,i64_w,i32_w]
         rfl
        refine one_ (i:=3) (N:=some 57) #[true,true,true,true,true,true,false,true,false] rfl rfl (one_of HT_.out (by kernel_rfl)) (by decide) (fun K hK=>?_)
        refine goes_ Tryd.func55 (by kernel_rfl) rfl #[.slice Ao72 x8_1.length co72] (by rfl) rfl rfl (by (try simp only [List.map_toArray,List.map_cons,List.map_nil]);first|done|rfl|(simp only [List.length_drop,List.length_take];rfl)) ?_
        with_reducible refine (spec_PathClean.calls k1 _ _ x8_1 t300 _ ?side1 ?side2 A27.out).mono ?_
        (case side1=>repeat (first|exact (Kd.R_reads' HO_8.out).2.2|(with_reducible refine Kd.C_alloc ?_ _)|(with_reducible refine Kd.C_drewN ?_ _)|(with_reducible refine Kd.C_drew ?_)))
        (case side2=>exact (Kd.R_reads' HO_8.out).2.1)
        rintro e w75 ⟨v301,rfl,ho0,hb⟩
        refine ⟨_,rfl,?_⟩
        have n0_:=Aside0.mk (Kd.R_elder' (by (with_reducible repeat (first|apply Kd.R_alloc|apply Kd.R_drewN|apply Kd.R_drew));exact HO_8.out) (Kd.R_base ho0) hb)
        have n1_:=Aside0.mk (Kd.R_elder' (by (with_reducible repeat (first|apply Kd.R_alloc|apply Kd.R_drewN|apply Kd.R_drew));exact HO_9.out) (Kd.R_base ho0) hb)
        have n2_:=Aside0.mk (Kd.R_lower (Kd.R_new' (Kd.R_new' ho0 (Kd.R_lt (by (with_reducible repeat (first|apply Kd.R_alloc|apply Kd.R_drewN|apply Kd.R_drew));exact HO_8.out))) (Kd.R_lt (by (with_reducible repeat (first|apply Kd.R_alloc|apply Kd.R_drewN|apply Kd.R_drew));exact HO_9.out))) (below_size (by repeat (first|(with_reducible first|exact HB.out|apply below_alloc|apply pw_below_drewN|apply below_drew1|refine below_set ?_ GE278.out|refine below_set ?_ GE279.out|refine below_set ?_ GE303.out)|exact HB.out))))
        have n3_:=Aside0.mk (blk_below (g:=gb278) (o:=.cells #[.string a0_0,.slice A0_1 l0_1.length c0_1,.bool a0_2,.string a0_3] 24 (0,0)) (by (with_reducible repeat (first|refine blk_drewN ?_ _|refine blk_drew ?_|refine blk_alloc ?_ _));exact BK278.out) hb)
        have n4_:=Aside0.mk (blk_below (g:=gb279) (o:=.cells #[.string x280000_1,.slice none 0 0,.bool x280002_1,.string x280003_1] 24 (0,0)) (by (with_reducible repeat (first|refine blk_drewN ?_ _|refine blk_drew ?_|refine blk_alloc ?_ _));exact BK279.out) hb)
        have n5_:=Aside0.mk (blk_below (g:=gb303) (o:=.cells #[.string (⟨#[]⟩:ByteArray),.slice none 0 0,.bool false,.string (⟨#[]⟩:ByteArray)] 24 (0,0)) (by (with_reducible repeat (first|refine blk_drewN ?_ _|refine blk_drew ?_|refine blk_alloc ?_ _));exact BK303.out) hb)
        have n6_:=Aside0.mk (below_step (by repeat (first|(with_reducible first|exact HB.out|apply below_alloc|apply pw_below_drewN|apply below_drew1|refine below_set ?_ GE278.out|refine below_set ?_ GE279.out|refine below_set ?_ GE303.out)|exact HB.out)) hb)
        clear HO_8
        clear HO_9
        clear BK278
        clear BK279
        clear BK303
        clear HB
        have HO_8:=n0_
        have HO_9:=n1_
        have HO302:=n2_
        have BK278:=n3_
        have BK279:=n4_
        have BK303:=n5_
        have HB:=n6_
        clear n0_ n1_ n2_ n3_ n4_ n5_ n6_
        (try clear hb)
        (try clear hb2)
        (try clear hk)
        (try clear hi)
        (try clear ho0)
        obtain ⟨Ao76,co76,eo76⟩:=Kd.R_slice HO302.out
        (first|subst eo76|(injection eo76 with f1_ f2_ f3_;have f4_:=f1_.symm;have f5_:=f3_.symm;clear f1_ f2_ f3_;subst f4_;subst f5_))
        refine hK.out _ _ ⟨(blk_cell BK278.out 0).trans rfl,(blk_cell BK278.out 1).trans rfl,(blk_cell BK278.out 2).trans rfl,(blk_cell BK278.out 3).trans rfl⟩ (fun hHeld=>?_)
        clear hK K
        refine norm_ (a':=?_) ?_ ?_
        rotate_left
        ·show Act.put _ (some 57) _ = _
         simp only [Act.put,List.setIfInBounds_toArray,List.set_cons_zero,List.set_cons_succ,i64_w,i32_w]
         rfl
        refine pure_ (i:=6) (N:=some 60) (v:=?_) (a':=?_) #[true,true,true,true,true,true,true,true,false] rfl rfl (any_of HT_.out (by kernel_rfl)) (fun _ _ _ h=>h) (Or.inl ⟨by rfl,?_⟩) ?_ ?_
        rotate_left
        ·intro w'
         go_simp
         with_reducible rfl
        rotate_left
        ·simp only [Act.put,List.setIfInBounds_toArray,List.set_cons_zero,List.set_cons_succ,i64_w,i32_w]
         rfl
        exact norm_ (by simp only [putAll,Act.put,List.setIfInBounds_toArray,List.set_cons_zero,List.set_cons_succ]) (hCont (.slice Ao76 t300.length co76,gb303) _ ⟨hHeld,(by (with_reducible repeat (first|apply Kd.R_alloc|apply Kd.R_drewN|apply Kd.R_drew));exact Kd.R_mono HO302.out (fun _ hk=>⟨hk.1.2,hk.2⟩)),(by (with_reducible repeat (first|apply Kd.R_alloc|apply Kd.R_drewN|apply Kd.R_drew));exact Kd.R_mono HO_8.out (fun _ hk=>⟨hk.2,hk.1⟩)),(by (with_reducible repeat (first|apply Kd.R_alloc|apply Kd.R_drewN|apply Kd.R_drew));exact Kd.R_mono HO_9.out (fun _ hk=>⟨hk.2,hk.1⟩)),(by (with_reducible repeat (first|refine blk_drewN ?_ _|refine blk_drew ?_|refine blk_alloc ?_ _));exact BK278.out),(by (with_reducible repeat (first|refine blk_drewN ?_ _|refine blk_drew ?_|refine blk_alloc ?_ _));exact BK279.out),(by (with_reducible repeat (first|refine blk_drewN ?_ _|refine blk_drew ?_|refine blk_alloc ?_ _));exact BK303.out),GW303.out,GE303.out,NB278_303.out,NB303_278.out,NB279_303.out,NB303_279.out,(by repeat (first|(with_reducible first|exact HB.out|apply below_alloc|apply pw_below_drewN|apply below_drew1|refine below_set ?_ GE278.out|refine below_set ?_ GE279.out|refine below_set ?_ GE303.out)|exact HB.out))⟩)
      rintro ⟨v301,gb303⟩ w77 ⟨hS_,h0_,h1_,h2_,h3_,h4_,h5_,h6_,h7_,h8_,h9_,h10_,h11_,h12_⟩
      have n0_:Aside0 (Kd.R Kd.string 9 w77 w.heap.size (fun k_=>some k_ ≠ (.slice Ao72 x8_1.length co72:Value).ownBlock ∧ some k_ ≠ (.slice Ao70 t289.length co70:Value).ownBlock) v301 t300):=⟨h0_⟩
      have n1_:Aside0 (Kd.R Kd.string 9 w77 w.heap.size (fun k_=>some k_ ≠ (v301:Value).ownBlock ∧ some k_ ≠ (.slice Ao70 t289.length co70:Value).ownBlock) (.slice Ao72 x8_1.length co72) x8_1):=⟨h1_⟩
      have n2_:Aside0 (Kd.R Kd.string 9 w77 w.heap.size (fun k_=>some k_ ≠ (v301:Value).ownBlock ∧ some k_ ≠ (.slice Ao72 x8_1.length co72:Value).ownBlock) (.slice Ao70 t289.length co70) t289):=⟨h2_⟩
      have n3_:Aside0 (w77.heap[gb278]? = some (.cells #[.string a0_0,.slice A0_1 l0_1.length c0_1,.bool a0_2,.string a0_3] 24 (0,0))):=⟨h3_⟩
      have n4_:Aside0 (w77.heap[gb279]? = some (.cells #[.string x280000_1,.slice none 0 0,.bool x280002_1,.string x280003_1] 24 (0,0))):=⟨h4_⟩
      have n5_:Aside0 (w77.heap[gb303]? = some (.cells #[.string (⟨#[]⟩:ByteArray),.slice none 0 0,.bool false,.string (⟨#[]⟩:ByteArray)] 24 (0,0))):=⟨h5_⟩
      have n6_:Aside0 (w.heap.size ≤ gb303):=⟨h6_⟩
      have n7_:Aside0 (w.heap.size ≤ gb303):=⟨h7_⟩
      have n8_:Aside0 (gb278 ≠ gb303):=⟨h8_⟩
      have n9_:Aside0 (gb303 ≠ gb278):=⟨h9_⟩
      have n10_:Aside0 (gb279 ≠ gb303):=⟨h10_⟩
      have n11_:Aside0 (gb303 ≠ gb279):=⟨h11_⟩
      have n12_:Aside0 (Below w.heap.size w w77):=⟨h12_⟩
      clear HO_8
      clear HO_9
      clear BK278
      clear BK279
      clear HB
      clear h0_ h1_ h2_ h3_ h4_ h5_ h6_ h7_ h8_ h9_ h10_ h11_ h12_
      have HO302:=n0_
      have HO_8:=n1_
      have HO_9:=n2_
      have BK278:=n3_
      have BK279:=n4_
      have BK303:=n5_
      have GW303:=n6_
      have GE303:=n7_
      have NB278_303:=n8_
      have NB303_278:=n9_
      have NB279_303:=n10_
      have NB303_279:=n11_
      have HB:=n12_
      clear n0_ n1_ n2_ n3_ n4_ n5_ n6_ n7_ n8_ n9_ n10_ n11_ n12_
      have hHeld:w77.cell? ⟨gb278,0,none⟩ = some (.string a0_0) ∧ w77.cell? ⟨gb278,1,none⟩ = some (.slice A0_1 l0_1.length c0_1) ∧ w77.cell? ⟨gb278,2,none⟩ = some (.bool a0_2) ∧ w77.cell? ⟨gb278,3,none⟩ = some (.string a0_3):=hS_
      obtain ⟨Ao78,co78,eo78⟩:=Kd.R_slice HO302.out
      (first|subst eo78|(injection eo78 with f1_ f2_ f3_;have f4_:=f1_.symm;have f5_:=f3_.symm;clear f1_ f2_ f3_;subst f4_;subst f5_))
      refine norm_ (a':=?_) ?_ ?_
      rotate_left
      ·simp only [putAll,Act.put,List.setIfInBounds_toArray,List.set_cons_zero,List.set_cons_succ]
       rfl
      refine one_ (i:=8) (N:=none) #[true,true,true,true,true,true,true,true,true] rfl rfl (one_of HT_.out (by kernel_rfl)) (by decide) (fun K hK=>?_)
      have hs79:w77.cell? ⟨gb303,0,none⟩ = some (.string (⟨#[]⟩:ByteArray)):=(blk_cell BK303.out 0).trans rfl
      have hfs79:=blk_frozen BK303.out 0
      have hns79_0:=NB278_303.out
      have hns79_1:=NB279_303.out
      have hms79_0:=NB303_278.out
      have hms79_1:=NB303_279.out
      have hs80:w77.cell? ⟨gb303,1,none⟩ = some (.slice none 0 0):=(blk_cell BK303.out 1).trans rfl
      have hfs80:=blk_frozen BK303.out 1
      have hns80_0:=NB278_303.out
      have hns80_1:=NB279_303.out
      have hms80_0:=NB303_278.out
      have hms80_1:=NB303_279.out
      have hs81:w77.cell? ⟨gb303,2,none⟩ = some (.bool false):=(blk_cell BK303.out 2).trans rfl
      have hfs81:=blk_frozen BK303.out 2
      have hns81_0:=NB278_303.out
      have hns81_1:=NB279_303.out
      have hms81_0:=NB303_278.out
      have hms81_1:=NB303_279.out
      have hs82:w77.cell? ⟨gb303,3,none⟩ = some (.string (⟨#[]⟩:ByteArray)):=(blk_cell BK303.out 3).trans rfl
      have hfs82:=blk_frozen BK303.out 3
      have hns82_0:=NB278_303.out
      have hns82_1:=NB279_303.out
      have hms82_0:=NB303_278.out
      have hms82_1:=NB303_279.out
      refine skip_ (w1:=?_) (by rfl) rfl ?_ ?_
      rotate_left
      ·go_simp
       rfl
      refine hK.out _ _ ⟨((cell_far (p:=⟨gb303,_,none⟩) NB278_303.out _).trans (((cell_far (p:=⟨gb303,_,none⟩) NB278_303.out _).trans (((cell_far (p:=⟨gb303,_,none⟩) NB278_303.out _).trans (((cell_far (p:=⟨gb303,_,none⟩) NB278_303.out _).trans (hHeld.1)))))))),((cell_far (p:=⟨gb303,_,none⟩) NB278_303.out _).trans (((cell_far (p:=⟨gb303,_,none⟩) NB278_303.out _).trans (((cell_far (p:=⟨gb303,_,none⟩) NB278_303.out _).trans (((cell_far (p:=⟨gb303,_,none⟩) NB278_303.out _).trans (hHeld.2.1)))))))),((cell_far (p:=⟨gb303,_,none⟩) NB278_303.out _).trans (((cell_far (p:=⟨gb303,_,none⟩) NB278_303.out _).trans (((cell_far (p:=⟨gb303,_,none⟩) NB278_303.out _).trans (((cell_far (p:=⟨gb303,_,none⟩) NB278_303.out _).trans (hHeld.2.2.1)))))))),((cell_far (p:=⟨gb303,_,none⟩) NB278_303.out _).trans (((cell_far (p:=⟨gb303,_,none⟩) NB278_303.out _).trans (((cell_far (p:=⟨gb303,_,none⟩) NB278_303.out _).trans (((cell_far (p:=⟨gb303,_,none⟩) NB278_303.out _).trans (hHeld.2.2.2))))))))⟩ (fun hHeld=>?_)
      clear hK K
      refine done_ (done_of HT_.out (by kernel_rfl)) ?_
      have hnb83:=NB279_278.out
      have hnc83:=NB278_279.out
      have hnb84:=NB279_303.out
      have hnc84:=NB303_279.out
      have hcz85_0:w77.cell? ⟨gb279,0,none⟩ = some (.string x280000_1):=(blk_cell BK279.out 0).trans rfl
      have hcz85_1:w77.cell? ⟨gb279,1,none⟩ = some (.slice none 0 0):=(blk_cell BK279.out 1).trans rfl
      have hcz85_2:w77.cell? ⟨gb279,2,none⟩ = some (.bool x280002_1):=(blk_cell BK279.out 2).trans rfl
      have hcz85_3:w77.cell? ⟨gb279,3,none⟩ = some (.string x280003_1):=(blk_cell BK279.out 3).trans rfl
      have hfz85_0:=blk_frozen BK279.out 0
      have hfz85_1:=blk_frozen BK279.out 1
      have hfz85_2:=blk_frozen BK279.out 2
      have hfz85_3:=blk_frozen BK279.out 3
      try go_wp2
      refine bodyPost_ret (results_ct rfl _ _ gb279 24 #[.string (⟨#[]⟩:ByteArray),.slice none 0 0,.bool false,.string (⟨#[]⟩:ByteArray)] (0,0) _ rfl (by (with_reducible repeat (first|refine blk_drewN ?_ _|refine blk_drew ?_|refine blk_alloc ?_ _));refine blk_put (cs:=#[.string (⟨#[]⟩:ByteArray),.slice none 0 0,.bool false,.string x280003_1]) ?_ 3 _ rfl;(with_reducible repeat (first|refine blk_drewN ?_ _|refine blk_drew ?_|refine blk_alloc ?_ _));refine blk_put (cs:=#[.string (⟨#[]⟩:ByteArray),.slice none 0 0,.bool x280002_1,.string x280003_1]) ?_ 2 _ rfl;(with_reducible repeat (first|refine blk_drewN ?_ _|refine blk_drew ?_|refine blk_alloc ?_ _));refine blk_put (cs:=#[.string (⟨#[]⟩:ByteArray),.slice none 0 0,.bool x280002_1,.string x280003_1]) ?_ 1 _ rfl;(with_reducible repeat (first|refine blk_drewN ?_ _|refine blk_drew ?_|refine blk_alloc ?_ _));refine blk_put (cs:=#[.string x280000_1,.slice none 0 0,.bool x280002_1,.string x280003_1]) ?_ 0 _ rfl;(with_reducible repeat (first|refine blk_drewN ?_ _|refine blk_drew ?_|refine blk_alloc ?_ _));refine blk_far ?_ NB279_303.out _;(with_reducible repeat (first|refine blk_drewN ?_ _|refine blk_drew ?_|refine blk_alloc ?_ _));refine blk_far ?_ NB279_303.out _;(with_reducible repeat (first|refine blk_drewN ?_ _|refine blk_drew ?_|refine blk_alloc ?_ _));refine blk_far ?_ NB279_303.out _;(with_reducible repeat (first|refine blk_drewN ?_ _|refine blk_drew ?_|refine blk_alloc ?_ _));refine blk_far ?_ NB279_303.out _;(with_reducible repeat (first|refine blk_drewN ?_ _|refine blk_drew ?_|refine blk_alloc ?_ _));exact BK279.out) Tryd.underlying24 rfl (by kernel_rfl)) rfl ?_
      exact ⟨_,by first|rfl|(simp <;> rfl)|(simp [*] <;> rfl),by first|exact Kd.R_nil _ _ _ _ _|exact Kd.N_nil _ _ _ _ _|exact Kd.V_nil _ _ _ _ _|exact Kd.Q_nil _ _ _ _ _|exact Kd.S_nil _ _ _ _ _,by repeat (first|(with_reducible first|exact HB.out|apply below_alloc|apply pw_below_drewN|apply below_drew1|refine below_set ?_ GE278.out|refine below_set ?_ GE279.out|refine below_set ?_ GE303.out)|exact HB.out)⟩
 ·rw [if_neg c4] at H
  exact absurd H (by simp)

end Go.Proofs.YtochmlkladpfgaaDoor.P
