-- Written by a program of this session (patch_print.py over the kit's print; given texts in wip/given).
-- Cut down by a program of this session (wip/tools/prune.py) to what its claim can name.
import Derived.Test.YtbnnamjaljohiaaDoorSq
import Derived.Test.YtbnnamjaljohiaaDoorPx0
import Derived.Test.YtbnnamjaljohiaaDoorPx2
namespace Go.Proofs.YtbnnamjaljohiaaDoor.P
open Go.RowKit Go.Proofs.YtbnnamjaljohiaaDoorW.PrintWords Go.Proofs.YtbnnamjaljohiaaDoorW.PrintLast Go.Proofs.YtbnnamjaljohiaaDoorW.PrintMore
attribute [local go_sem] max2_int min2_int max_two min_two max_three min_three max_four min_four   -- for this text's walks alone
set_option linter.unusedVariables false
set_option linter.unusedSimpArgs false
set_option maxHeartbeats 8000000
set_option maxRecDepth 100000

def spec_l1Way.l0:Nat → ByteArray → Bool → List ByteArray → List ByteArray → Int → ByteArray → List ByteArray → Bool → ByteArray → Option (ByteArray × List ByteArray × Bool × ByteArray × Bool)
 | 0,_,_,_,_,_,_,_,_,_=>none
 | k + 1,x6,x7,x8,x9,x10,x251000,x251001,x251002,x251003=>if x10 < (x9.length:Int) then (if 0 ≤ x10 then ((spec_EscNorm.f k (rdOf ByteArray.empty x9 x10)).bind fun bt265=>(if bt265.2 = true then (if x8.length < 8796093022208 then (spec_l1Way.l0 k x6 x7 (x8 ++ [bt265.1]) x9 (wrap64 (x10 + 1)) x251000 x251001 x251002 x251003) else (none)) else (some ((⟨#[]⟩:ByteArray),([]:List ByteArray),false,(⟨#[]⟩:ByteArray),false)))) else (none)) else ((spec_EscNorm.f k x6).bind fun bt270=>((spec_PathClean.f k x8).bind fun t272=>(if bt270.2 = true then ((spec_AddrOk.f k x251000 t272 x7 bt270.1).bind fun t276=>(if t276 = true then (some (x251000,t272,x7,bt270.1,true)) else (some ((⟨#[]⟩:ByteArray),([]:List ByteArray),false,(⟨#[]⟩:ByteArray),false)))) else (some ((⟨#[]⟩:ByteArray),([]:List ByteArray),false,(⟨#[]⟩:ByteArray),false)))))
def spec_l1Way.f (k:Nat) (a0_0:ByteArray) (l0_1:List ByteArray) (a0_2:Bool) (a0_3:ByteArray) (a1:ByteArray):Option (ByteArray × List ByteArray × Bool × ByteArray × Bool):=(spec_l1Cut.f k a1 63).bind fun bt252=>((some (([]:List ByteArray):List ByteArray)).bind fun y255=>(if y255.length + l0_1.length < 8796093022208 then ((spec_l1Split.f k bt252.1 47).bind fun t261=>(spec_l1Way.l0 k bt252.2.1 bt252.2.2 (y255 ++ l0_1) t261 0 a0_0 l0_1 a0_2 a0_3)) else (none)))
theorem spec_l1Way.mono_l:∀ k,(∀ y0 y1 y2 y3 y4 y5 y6 y7 y8,LeO (spec_l1Way.l0 k y0 y1 y2 y3 y4 y5 y6 y7 y8) (spec_l1Way.l0 (k + 1) y0 y1 y2 y3 y4 y5 y6 y7 y8))
 | 0=>fun _ _ _ _ _ _ _ _ _ r h=>by simp [spec_l1Way.l0] at h
 | k + 1=>by
  have ih0:=spec_l1Way.mono_l k
  ·intro y0 y1 y2 y3 y4 y5 y6 y7 y8
   unfold spec_l1Way.l0
   repeat' first
   | (with_reducible apply ih0)
   | (with_reducible apply spec_AddrOk.mono)
   | (with_reducible apply spec_EscNorm.mono)
   | (with_reducible apply spec_PathClean.mono)
   | (with_reducible apply spec_l1Cut.mono)
   | (with_reducible apply spec_l1Split.mono)
   | (with_reducible exact LeO.refl _)
   | (with_reducible exact LeO.none _)
   | (with_reducible refine LeO.ite ?_ ?_)
   | (with_reducible refine LeO.bind ?_ (fun _=>?_))
   | exact ih0 _ _ _ _ _ _ _ _ _
   | exact spec_AddrOk.mono _ _ _ _ _
   | exact spec_EscNorm.mono _ _
   | exact spec_PathClean.mono _ _
   | exact spec_l1Cut.mono _ _ _
   | exact spec_l1Split.mono _ _ _
   | exact LeO.none _
   | refine LeO.ite ?_ ?_
   | refine LeO.bind ?_ (fun _=>?_)
theorem spec_l1Way.mono:∀ a0 a1 a2 a3 a4 k,LeO (spec_l1Way.f k a0 a1 a2 a3 a4) (spec_l1Way.f (k + 1) a0 a1 a2 a3 a4):=by
 intro a0 a1 a2 a3 a4 k
 have ih0:=spec_l1Way.mono_l k
 unfold spec_l1Way.f
 repeat' first
   | (with_reducible apply ih0)
   | (with_reducible apply spec_AddrOk.mono)
   | (with_reducible apply spec_EscNorm.mono)
   | (with_reducible apply spec_PathClean.mono)
   | (with_reducible apply spec_l1Cut.mono)
   | (with_reducible apply spec_l1Split.mono)
   | (with_reducible exact LeO.refl _)
   | (with_reducible exact LeO.none _)
   | (with_reducible refine LeO.ite ?_ ?_)
   | (with_reducible refine LeO.bind ?_ (fun _=>?_))
   | exact ih0 _ _ _ _ _ _ _ _ _
   | exact spec_AddrOk.mono _ _ _ _ _
   | exact spec_EscNorm.mono _ _
   | exact spec_PathClean.mono _ _
   | exact spec_l1Cut.mono _ _ _
   | exact spec_l1Split.mono _ _ _
   | exact LeO.none _
   | refine LeO.ite ?_ ?_
   | refine LeO.bind ?_ (fun _=>?_)
def spec_l1Way.T12:Bool × List (List Nat × List Nat):=(true,[([],[]),([0],[0]),([],[]),([2],[2]),([],[]),([],[]),([1,3,4,5],[1,3,4,5]),([],[]),([7,6,3,0,1,2,3,4,5,6,7],[6,7])])
def spec_l1Way.B12:List Nat:=[0,1,0,4,0,0,63,0,255]
theorem spec_l1Way.tab12:rtab .any (opsOf Tryd.f34 12) = spec_l1Way.T12:=by kernel_rfl
theorem spec_l1Way.bits12:waitsOk spec_l1Way.T12.2 spec_l1Way.B12 = true:=by kernel_rfl
theorem spec_l1Way.calls (k:Nat) (a0_0:ByteArray) (A0_1:Option Addr) (c0_1:Nat) (l0_1:List ByteArray) (a0_2:Bool) (a0_3:ByteArray) (a1:ByteArray) (r1:ByteArray) (r2:List ByteArray) (r3:Bool) (r4:ByteArray) (r5:Bool) (w:World) (hr0_1:Kd.C Kd.string w A0_1 l0_1.length l0_1) (hc0_1:l0_1.length ≤ c0_1) (h:spec_l1Way.f k a0_0 l0_1 a0_2 a0_3 a1 = some (r1,r2,r3,r4,r5)) :
  Calls Tryd.prog 34 #[.agg #[.string a0_0, .slice A0_1 l0_1.length c0_1, .bool a0_2, .string a0_3], .string a1] w fun e w'=>∃ v1_:Value,e = .returned (.tuple #[.agg #[.string r1,v1_, .bool r3, .string r4], .bool r5]) ∧ Kd.R Kd.string 9 w' w.heap.size (fun _=>True) v1_ r2 ∧ Below w.heap.size w w':=by
 have hu25:=Tryd.underlying25
 have HR0_1:=Am hr0_1
 have HC0_1:=Am hc0_1
 clear hr0_1 hc0_1
 have HB:=Am (Below.refl w.heap.size w)
 have H:((spec_l1Cut.f k a1 63).bind fun bt252=>((some (([]:List ByteArray):List ByteArray)).bind fun y255=>(if y255.length + l0_1.length < 8796093022208 then ((spec_l1Split.f k bt252.1 47).bind fun t261=>(spec_l1Way.l0 k bt252.2.1 bt252.2.2 (y255 ++ l0_1) t261 0 a0_0 l0_1 a0_2 a0_3)) else (none)))) = some (r1,r2,r3,r4,r5):=h
 clear h
 replace H:=bI H
 obtain ⟨⟨t252,t253,t254⟩,A30,H⟩:=H
 replace H:((some (([]:List ByteArray):List ByteArray)).bind fun y255=>(if y255.length + l0_1.length < 8796093022208 then ((spec_l1Split.f k t252 47).bind fun t261=>(spec_l1Way.l0 k t253 t254 (y255 ++ l0_1) t261 0 a0_0 l0_1 a0_2 a0_3)) else (none))) = some (r1,r2,r3,r4,r5):=H
 have A3:=Am A30
 clear A30
 obtain ⟨y255,hy255⟩:∃ y_:List ByteArray,y_ = (([]:List ByteArray)):=⟨_,rfl⟩
 replace H:(if y255.length + l0_1.length < 8796093022208 then ((spec_l1Split.f k t252 47).bind fun t261=>(spec_l1Way.l0 k t253 t254 (y255 ++ l0_1) t261 0 a0_0 l0_1 a0_2 a0_3)) else (none)) = some (r1,r2,r3,r4,r5):=by first|(rw [hy255];with_reducible exact H)|(have H2_:=(Option.bind_some _ _).symm.trans H;rw [hy255];with_reducible exact H2_)|(have H2_:=(Option.bind_some _ _).symm.trans H;with_reducible exact H2_)|with_reducible exact H|(rw [hy255];exact H)|exact H
 have Ny255:=Am hy255
 clear hy255
 by_cases c4:y255.length + l0_1.length < 8796093022208
 ·rw [if_pos c4] at H
  have LMc4:=Am c4
  clear c4
  obtain ⟨y258,hy258⟩:∃ y_:List ByteArray,y_ = (y255 ++ l0_1):=⟨_,rfl⟩
  replace H:((spec_l1Split.f k t252 47).bind fun t261=>(spec_l1Way.l0 k t253 t254 y258 t261 0 a0_0 l0_1 a0_2 a0_3)) = some (r1,r2,r3,r4,r5):=by first|(rw [hy258];with_reducible exact H)|(have H2_:=(Option.bind_some _ _).symm.trans H;rw [hy258];with_reducible exact H2_)|(have H2_:=(Option.bind_some _ _).symm.trans H;with_reducible exact H2_)|with_reducible exact H|(rw [hy258];exact H)|exact H
  have Ny258:=Am hy258
  clear hy258
  replace H:=bI H
  obtain ⟨t261,A50,H⟩:=H
  replace H:(spec_l1Way.l0 k t253 t254 y258 t261 0 a0_0 l0_1 a0_2 a0_3) = some (r1,r2,r3,r4,r5):=H
  have A5:=Am A50
  clear A50
  have H':=Am H
  clear H
  go_enter Tryd.func34,Tryd.ntmps34
  go_wp2_with (first|((with_reducible refine gate_dst (N:=2) rfl ?_);refine box_event ?hg (N:=2) ?hd (cs:=#[.string a0_0, .slice A0_1 l0_1.length c0_1, .bool a0_2, .string a0_3]) (t:=25) ?hr ?_;(case hd=>rfl);(case hg=>rfl);(case hr=>(go_simp <;> rfl));intro gb250 hg w6 hbox hb;have n0_:=Am (bT (by repeat (first|(with_reducible first|exact HB.out|apply bA|apply bN|apply bD)|exact HB.out)) hb);have n1_:=Am (hbox);have n2_:=Am ((by rw [hg];exact (bU (by repeat (first|(with_reducible first|exact HB.out|apply bA|apply bN|apply bD)|exact HB.out))):w.heap.size ≤ gb250));have n3_:=n2_;clear HB;have HB:=n0_;have BK250:=n1_;have GW250:=n2_;have GE250:=n3_;clear n0_ n1_ n2_ n3_ hb hbox hg)|((with_reducible refine gate_dst (N:=4) rfl ?_);refine box_event ?hg (N:=4) ?hd (cs:=#[.string (⟨#[]⟩:ByteArray), .slice none 0 0, .bool false, .string (⟨#[]⟩:ByteArray)]) (t:=25) ?hr ?_;(case hd=>rfl);(case hg=>rfl);(case hr=>(go_simp <;> rfl));intro gb251 hg w7 hbox hb;have n0_:=Am (blk_below (bB BK250.out) hb);have n1_:=Am (bT (by repeat (first|(with_reducible first|exact HB.out|apply bA|apply bN|apply bD|refine bS ?_ GE250.out)|exact HB.out)) hb);have n2_:=Am (hbox);have n3_:=Am ((by rw [hg];exact (bU (by repeat (first|(with_reducible first|exact HB.out|apply bA|apply bN|apply bD|refine bS ?_ GE250.out)|exact HB.out))):w.heap.size ≤ gb251));have n4_:=n3_;have n5_:=Am ((by rw [hg];exact Nat.ne_of_lt (blk_lt (bB BK250.out)):gb250 ≠ gb251));have n6_:=Am ((by rw [hg];exact Nat.ne_of_gt (blk_lt (bB BK250.out)):gb251 ≠ gb250));clear BK250 HB;have BK250:=n0_;have HB:=n1_;have BK251:=n2_;have GW251:=n3_;have GE251:=n4_;have NB250_251:=n5_;have NB251_250:=n6_;clear n0_ n1_ n2_ n3_ n4_ n5_ n6_ hb hbox hg)|((with_reducible refine gate_callee (f:=32) rfl ?_);refine goesL_ (some 18) rfl rfl Tryd.func32 (by kernel_rfl) rfl #[.string a1, .int .u8 63] rfl (aE2 rfl rfl) ?_;(with_reducible refine (spec_l1Cut.calls k a1 63 t252 t253 t254 _ A3.out).mono ?_);rintro e w' ⟨rfl,⟨nd,rfl⟩⟩;refine ⟨_,rfl,?_⟩)|((with_reducible refine gate_dst (N:=22) rfl ?_);refine Kd.R_lit Kd.string _ 9 ?hg (N:=22) ?hd (xs:=([]:List ByteArray)) (inner:=[]) (ok:=fun _=>True) (okp:=fun _=>True) ?hr ?hp (fun _ hk=>hk) trivial (Below.refl _ _) (Nat.le_refl _) (by simp) ?_;(case hd=>rfl);(case hg=>rfl);(case hr=>(go_simp <;> rfl));(case hp=>exact (Reps.none _ _));intro v256 w8 ho9 hb hg_ hnew_;clear hg_ hnew_;(first|rw [← Ny255.out] at ho9|(simp only [Int.reduceToNat] at ho9;rw [← Ny255.out] at ho9));have n0_:=Am (Kd.R_lower ho9 (bU (by repeat (first|(with_reducible first|exact HB.out|apply bA|apply bN|apply bD|refine bS ?_ GE250.out|refine bS ?_ GE251.out)|exact HB.out))));have n1_:=Am (blk_below (bB BK250.out) hb);have n2_:=Am (blk_below (bB BK251.out) hb);have n3_:=Am (bT (by repeat (first|(with_reducible first|exact HB.out|apply bA|apply bN|apply bD|refine bS ?_ GE250.out|refine bS ?_ GE251.out)|exact HB.out)) hb);clear BK250 BK251 HB;have HO257:=n0_;have BK250:=n1_;have BK251:=n2_;have HB:=n3_;clear n0_ n1_ n2_ n3_ hb ho9;have hnb10:=NB250_251.out;have hnc10:=NB251_250.out;have hcz11_0:w8.cell? ⟨gb250,0,none⟩ = some (.string a0_0):=bM BK250.out 0 rfl;have hcz11_1:w8.cell? ⟨gb250,1,none⟩ = some (.slice A0_1 l0_1.length c0_1):=bM BK250.out 1 rfl;have hcz11_2:w8.cell? ⟨gb250,2,none⟩ = some (.bool a0_2):=bM BK250.out 2 rfl;have hcz11_3:w8.cell? ⟨gb250,3,none⟩ = some (.string a0_3):=bM BK250.out 3 rfl;have hfz11_0:=bZ BK250.out 0;have hfz11_1:=bZ BK250.out 1;have hfz11_2:=bZ BK250.out 2;have hfz11_3:=bZ BK250.out 3)|((with_reducible refine gate_builtin (b:=.append) (xs:=#[.tmp 22, .tmp 24]) rfl ?_);at_builtin;refine Kd.R_append_rows Kd.string (w0:=w) w.heap.size rfl (.tmp 22) (.tmp 24) 23 9 (.string ⟨#[]⟩) 16 rfl Tryd.underlying23 info9 rfl (by decide) (by omega) v256 y255 l0_1 _ _ _ (fun _=>True) (fun _=>False) rfl rfl ?aO ?aR (fun _ _ h=>h) (fun _ h=>h.elim) ?aF ?aB ?aS ?aL ?_;(case aR=>repeat (first|exact (Kd.C_below HR0_1.out HB.out)|(with_reducible refine bC ?_)));(case aB=>exact (by repeat (first|(with_reducible first|exact HB.out|apply bA|apply bN|apply bD|refine bS ?_ GE250.out|refine bS ?_ GE251.out)|exact HB.out)));(case aF=>exact (fun _ _=>trivial));(case aO=>exact (bR HO257.out));(case aS=>exact (bU (by repeat (first|(with_reducible first|exact HB.out|apply bA|apply bN|apply bD|refine bS ?_ GE250.out|refine bS ?_ GE251.out)|exact HB.out))));(case aL=>have:=LMc4.out;omega);intro v259 w12 ho hb hg hat;rw [← Ny258.out] at ho;have n0_:=Am (blk_grown (bB BK250.out) hg (Kd.R_ne HO257.out BK250.out (by decide)));have n1_:=Am (blk_grown (bB BK251.out) hg (Kd.R_ne HO257.out BK251.out (by decide)));have n2_:=Am (hb);have n3_:=Am (ho);clear BK250 BK251 HB HO257;have BK250:=n0_;have BK251:=n1_;have HB:=n2_;have HO260:=n3_;clear n0_ n1_ n2_ n3_ ho hb hg hat)|((with_reducible refine gate_callee (f:=59) rfl ?_);refine goesL_ (some 27) rfl rfl Tryd.func59 (by kernel_rfl) rfl #[.string t252, .int .u8 47] rfl (aE2 rfl rfl) ?_;(with_reducible refine (spec_l1Split.calls k t252 47 t261 _ A5.out).mono ?_);rintro e w13 ⟨v262,rfl,ho0,hb⟩;refine ⟨_,rfl,?_⟩;have n0_:=Am (Kd.R_elder' (bR HO260.out) (Kd.R_base ho0) hb);have n1_:=Am (Kd.R_lower (Kd.R_new' ho0 (Kd.R_lt (bR HO260.out))) (bU (by repeat (first|(with_reducible first|exact HB.out|apply bA|apply bN|apply bD|refine bS ?_ GE250.out|refine bS ?_ GE251.out)|exact HB.out))));have n2_:=Am (blk_below (bB BK250.out) hb);have n3_:=Am (blk_below (bB BK251.out) hb);have n4_:=Am (bT (by repeat (first|(with_reducible first|exact HB.out|apply bA|apply bN|apply bD|refine bS ?_ GE250.out|refine bS ?_ GE251.out)|exact HB.out)) hb);clear HO260 BK250 BK251 HB;have HO260:=n0_;have HO263:=n1_;have BK250:=n2_;have BK251:=n3_;have HB:=n4_;clear n0_ n1_ n2_ n3_ n4_;(try clear hb);(try clear ho0)))
  go_loopg [8,10] k (fun kq v8 v10 w'=>∃ (x8_1:List ByteArray) (x10_1:Int) (x252000_1:ByteArray) (x252002_1:Bool) (x252003_1:ByteArray),v10 = .int .i64 x10_1 ∧ Aside0 (spec_l1Way.l0 kq t253 t254 x8_1 t261 x10_1 a0_0 l0_1 a0_2 a0_3 = some (r1,r2,r3,r4,r5)) ∧ Aside0 (kq ≤ k) ∧ Aside0 (Kd.R Kd.string 9 w' w.heap.size (fun k_=>some k_ ≠ (v262:Value).ownBlock) v8 x8_1) ∧ Aside0 (Kd.R Kd.string 9 w' w.heap.size (fun k_=>some k_ ≠ (v8:Value).ownBlock) v262 t261) ∧ Aside0 (w'.heap[gb250]? = some (.cells #[.string a0_0,(.slice A0_1 l0_1.length c0_1), .bool a0_2, .string a0_3] 25 (0,0))) ∧ Aside0 (w'.heap[gb251]? = some (.cells #[.string x252000_1,(.slice none 0 0), .bool x252002_1, .string x252003_1] 25 (0,0))) ∧ Aside0 (Below w.heap.size w w'))
  case atStart=>exact ⟨(y258),(0),((⟨#[]⟩:ByteArray)),(false),((⟨#[]⟩:ByteArray)),(by first|rfl|(simp;done)|(simp only [i64_w,i32_w] <;> rfl)|(simp [*];done)|(simp [emp_bne,emp_beq];done)),H',⟨Nat.le_refl _⟩,⟨by (with_reducible repeat (first|apply rA|apply rN|apply rD));exact Kd.R_mono HO260.out (fun _ hk=>hk.2)⟩,⟨by (with_reducible repeat (first|apply rA|apply rN|apply rD));exact Kd.R_mono HO263.out (fun _ hk=>hk.2)⟩,⟨by refine bB ?_;exact BK250.out⟩,⟨by refine bB ?_;exact BK251.out⟩,⟨by repeat (first|(with_reducible first|exact HB.out|apply bA|apply bN|apply bD|refine bS ?_ GE250.out|refine bS ?_ GE251.out)|exact HB.out)⟩⟩
  case round =>
   clear H'
   try clear c1
   try clear p2
   try clear c3
   try clear c4
   try clear c5
   try clear c10
   try clear hcz11_0
   try clear hcz11_1
   try clear hcz11_2
   try clear hcz11_3
   try clear hfz11_0
   try clear hfz11_1
   try clear hfz11_2
   try clear hfz11_3
   obtain ⟨x8_1,x10_1,x252000_1,x252002_1,x252003_1,rfl,HA,HK1,HO_8,HO_9,BK250,BK251,HB⟩:=hrel
   cases gk with
   | zero=>exact absurd HA.out (by simp [spec_l1Way.l0])
   | succ k1 =>
    have H:=HA.out
    clear HA
    simp only [spec_l1Way.l0] at H
    by_cases c14:x10_1 < (t261.length:Int)
    ·rw [if_pos c14] at H
     have c14b0:decide (x10_1 < (t261.length:Int)) = true:=decide_eq_true c14
     clear c14
     by_cases c15:0 ≤ x10_1
     ·rw [if_pos c15] at H
      have c15b0:decide (0 ≤ x10_1) = true:=decide_eq_true c15
      clear c15
      replace H:=bI H
      obtain ⟨⟨t265,t266⟩,A160,H⟩:=H
      replace H:(if t266 = true then (if x8_1.length < 8796093022208 then (spec_l1Way.l0 k1 t253 t254 (x8_1 ++ [t265]) t261 (wrap64 (x10_1 + 1)) a0_0 l0_1 a0_2 a0_3) else (none)) else (some ((⟨#[]⟩:ByteArray),([]:List ByteArray),false,(⟨#[]⟩:ByteArray),false))) = some (r1,r2,r3,r4,r5):=H
      have A16:=Am A160
      clear A160
      by_cases c17:t266 = true
      ·subst c17
       have H1:(if x8_1.length < 8796093022208 then (spec_l1Way.l0 k1 t253 t254 (x8_1 ++ [t265]) t261 (wrap64 (x10_1 + 1)) a0_0 l0_1 a0_2 a0_3) else (none)) = some (r1,r2,r3,r4,r5):=by rw [if_pos rfl] at H;exact H
       clear H
       have H:=H1
       clear H1
       by_cases c18:x8_1.length < 8796093022208
       ·rw [if_pos c18] at H
        have LMc18:=Am c18
        clear c18
        obtain ⟨y267,hy267⟩:∃ y_:List ByteArray,y_ = (x8_1 ++ [t265]):=⟨_,rfl⟩
        replace H:(spec_l1Way.l0 k1 t253 t254 y267 t261 (wrap64 (x10_1 + 1)) a0_0 l0_1 a0_2 a0_3) = some (r1,r2,r3,r4,r5):=by first|(rw [hy267];with_reducible exact H)|(have H2_:=(Option.bind_some _ _).symm.trans H;rw [hy267];with_reducible exact H2_)|(have H2_:=(Option.bind_some _ _).symm.trans H;with_reducible exact H2_)|with_reducible exact H|(rw [hy267];exact H)|exact H
        have Ny267:=Am hy267
        clear hy267
        have H':=Am H
        clear H
        obtain ⟨Ao19,co19,eo19⟩:=Kd.R_slice HO_9.out
        subst eo19
        have p264:0 ≤ (x10_1:Int):=oD (by assumption)
        have q264:x10_1 < (t261.length:Int):=oD (by assumption)
        obtain ⟨ad264,e264,hx264_0⟩:=Kd.at_string (Kd.R_reads' HO_9.out).2.2 x10_1 p264 q264
        cases e264
        replace p264:=eq_true p264
        replace q264:=eq_true q264
        go_wp2_with (first|((with_reducible refine gate_callee (f:=60) rfl ?_);refine goesL_ (some 39) rfl rfl Tryd.func60 (by kernel_rfl) rfl #[.string (rdOf ByteArray.empty t261 x10_1)] rfl (aE1 rfl) ?_;(with_reducible refine (spec_EscNorm.calls k1 (rdOf ByteArray.empty t261 x10_1) t265 true _ A16.out).mono ?_);rintro e w20 ⟨rfl,hb⟩;refine ⟨_,rfl,?_⟩;have n0_:=Am (Kd.R_below (bR HO_8.out) hb);have n1_:=Am (Kd.R_below (bR HO_9.out) hb);have n2_:=Am (blk_below (bB BK250.out) hb);have n3_:=Am (blk_below (bB BK251.out) hb);have n4_:=Am (bT (by repeat (first|(with_reducible first|exact HB.out|apply bA|apply bN|apply bD|refine bS ?_ GE250.out|refine bS ?_ GE251.out)|exact HB.out)) hb);clear HO_8 HO_9 BK250 BK251 HB;have HO_8:=n0_;have HO_9:=n1_;have BK250:=n2_;have BK251:=n3_;have HB:=n4_;clear n0_ n1_ n2_ n3_ n4_;(try clear hb))|((with_reducible refine gate_builtin (b:=.append) (xs:=#[.tmp 45, .tmp 47]) rfl ?_);at_builtin;refine Kd.R_append Kd.string (w0:=w) w.heap.size rfl (.tmp 45) (.tmp 47) 23 9 (.string ⟨#[]⟩) 16 rfl Tryd.underlying23 info9 rfl (by decide) (by omega) u8 x8_1 t265 [.string t265] (fun k_=>some k_ ≠ (.slice (some ad264) t261.length co19:Value).ownBlock) (fun _=>False) rfl rfl ?aP (fun _ hk=>hk.elim) ?aF ?aO ?aB ?aS ?aL ?_;(case aP=>exact rfl);(case aB=>exact (by repeat (first|(with_reducible first|exact HB.out|apply bA|apply bN|apply bD|refine bS ?_ GE250.out|refine bS ?_ GE251.out)|exact HB.out)));(case aF=>exact (fun k_ hk=>Kd.fresh' (Kd.R_lt (bR HO_9.out)) k_ hk));(case aO=>exact (bR HO_8.out));(case aS=>exact (bU (by repeat (first|(with_reducible first|exact HB.out|apply bA|apply bN|apply bD|refine bS ?_ GE250.out|refine bS ?_ GE251.out)|exact HB.out))));(case aL=>have:=LMc18.out;omega);intro v268 w21 ho hb hg hat;rw [← Ny267.out] at ho;have n0_:=Am (Kd.R_after (ok:=(fun _=>True)) (by (with_reducible repeat (first|apply rA|apply rN|apply rD));exact Kd.R_mono HO_9.out (fun _ hk=>⟨trivial,hk⟩)) hg hat);have n1_:=Am (blk_grown (bB BK250.out) hg (Kd.R_ne HO_8.out BK250.out (by decide)));have n2_:=Am (blk_grown (bB BK251.out) hg (Kd.R_ne HO_8.out BK251.out (by decide)));have n3_:=Am (hb);have n4_:=Am (ho);clear HO_9 BK250 BK251 HB HO_8;have HO_9:=n0_;have BK250:=n1_;have BK251:=n2_;have HB:=n3_;have HO269:=n4_;clear n0_ n1_ n2_ n3_ n4_ ho hb hg hat))
        go_roundg k1
        case measure=>have:=HK1.out;omega
        case rel=>exact ⟨(y267),(wrap64 (x10_1 + 1)),(x252000_1),(x252002_1),(x252003_1),(by first|rfl|(simp;done)|(simp only [i64_w,i32_w] <;> rfl)|(simp [*];done)|(simp [emp_bne,emp_beq];done)),H',⟨by have:=HK1.out;omega⟩,⟨by (with_reducible repeat (first|apply rA|apply rN|apply rD));exact HO269.out⟩,⟨by (with_reducible repeat (first|apply rA|apply rN|apply rD));exact Kd.R_mono HO_9.out (fun _ hk=>hk.2)⟩,⟨by refine bB ?_;exact BK250.out⟩,⟨by refine bB ?_;exact BK251.out⟩,⟨by repeat (first|(with_reducible first|exact HB.out|apply bA|apply bN|apply bD|refine bS ?_ GE250.out|refine bS ?_ GE251.out)|exact HB.out)⟩⟩
       ·rw [if_neg c18] at H
        exact absurd H (by simp)
      ·replace c17:=Bool.eq_false_iff.mpr c17
       subst c17
       have H1:(some ((⟨#[]⟩:ByteArray),([]:List ByteArray),false,(⟨#[]⟩:ByteArray),false)) = some (r1,r2,r3,r4,r5):=by rw [if_neg (show ¬ (false = true) by decide)] at H;exact H
       clear H
       have H:=H1
       clear H1
       simp only [Option.some.injEq,Prod.mk.injEq] at H
       obtain ⟨rfl,rfl,rfl,rfl,rfl⟩:=H
       obtain ⟨Ao22,co22,eo22⟩:=Kd.R_slice HO_9.out
       subst eo22
       have p264:0 ≤ (x10_1:Int):=oD (by assumption)
       have q264:x10_1 < (t261.length:Int):=oD (by assumption)
       obtain ⟨ad264,e264,hx264_0⟩:=Kd.at_string (Kd.R_reads' HO_9.out).2.2 x10_1 p264 q264
       cases e264
       replace p264:=eq_true p264
       replace q264:=eq_true q264
       go_wp2_with (first|((with_reducible refine gate_callee (f:=60) rfl ?_);refine goesL_ (some 39) rfl rfl Tryd.func60 (by kernel_rfl) rfl #[.string (rdOf ByteArray.empty t261 x10_1)] rfl (aE1 rfl) ?_;(with_reducible refine (spec_EscNorm.calls k1 (rdOf ByteArray.empty t261 x10_1) t265 false _ A16.out).mono ?_);rintro e w23 ⟨rfl,hb⟩;refine ⟨_,rfl,?_⟩;have n0_:=Am (Kd.R_below (bR HO_8.out) hb);have n1_:=Am (Kd.R_below (bR HO_9.out) hb);have n2_:=Am (blk_below (bB BK250.out) hb);have n3_:=Am (blk_below (bB BK251.out) hb);have n4_:=Am (bT (by repeat (first|(with_reducible first|exact HB.out|apply bA|apply bN|apply bD|refine bS ?_ GE250.out|refine bS ?_ GE251.out)|exact HB.out)) hb);clear HO_8 HO_9 BK250 BK251 HB;have HO_8:=n0_;have HO_9:=n1_;have BK250:=n2_;have BK251:=n3_;have HB:=n4_;clear n0_ n1_ n2_ n3_ n4_;(try clear hb);have hnb24:=NB251_250.out;have hnc24:=NB250_251.out;have hcz25_0:w23.cell? ⟨gb251,0,none⟩ = some (.string x252000_1):=bM BK251.out 0 rfl;have hcz25_1:w23.cell? ⟨gb251,1,none⟩ = some (.slice none 0 0):=bM BK251.out 1 rfl;have hcz25_2:w23.cell? ⟨gb251,2,none⟩ = some (.bool x252002_1):=bM BK251.out 2 rfl;have hcz25_3:w23.cell? ⟨gb251,3,none⟩ = some (.string x252003_1):=bM BK251.out 3 rfl;have hfz25_0:=bZ BK251.out 0;have hfz25_1:=bZ BK251.out 1;have hfz25_2:=bZ BK251.out 2;have hfz25_3:=bZ BK251.out 3))
       refine bodyPost_ret (results_ct rfl _ _ gb251 25 #[.string (⟨#[]⟩:ByteArray), .slice none 0 0, .bool false, .string (⟨#[]⟩:ByteArray)] (0,0) _ rfl (by refine bB ?_;apply bP;refine bB ?_;exact BK251.out) Tryd.underlying25 rfl (by kernel_rfl)) rfl ?_
       exact ⟨_,by first|rfl|(simp <;> rfl)|(simp [*] <;> rfl),by first|exact Kd.R_nil _ _ _ _ _|exact Kd.N_nil _ _ _ _ _|exact Kd.V_nil _ _ _ _ _|exact Kd.Q_nil _ _ _ _ _|exact Kd.S_nil _ _ _ _ _,by repeat (first|(with_reducible first|exact HB.out|apply bA|apply bN|apply bD|refine bS ?_ GE250.out|refine bS ?_ GE251.out)|exact HB.out)⟩
     ·rw [if_neg c15] at H
      exact absurd H (by simp)
    ·rw [if_neg c14] at H
     have c14b0:decide (x10_1 < (t261.length:Int)) = false:=decide_eq_false c14
     clear c14
     replace H:=bI H
     obtain ⟨⟨t270,t271⟩,A260,H⟩:=H
     replace H:((spec_PathClean.f k1 x8_1).bind fun t272=>(if t271 = true then ((spec_AddrOk.f k1 a0_0 t272 t254 t270).bind fun t276=>(if t276 = true then (some (a0_0,t272,t254,t270,true)) else (some ((⟨#[]⟩:ByteArray),([]:List ByteArray),false,(⟨#[]⟩:ByteArray),false)))) else (some ((⟨#[]⟩:ByteArray),([]:List ByteArray),false,(⟨#[]⟩:ByteArray),false)))) = some (r1,r2,r3,r4,r5):=H
     have A26:=Am A260
     clear A260
     replace H:=bI H
     obtain ⟨t272,A270,H⟩:=H
     replace H:(if t271 = true then ((spec_AddrOk.f k1 a0_0 t272 t254 t270).bind fun t276=>(if t276 = true then (some (a0_0,t272,t254,t270,true)) else (some ((⟨#[]⟩:ByteArray),([]:List ByteArray),false,(⟨#[]⟩:ByteArray),false)))) else (some ((⟨#[]⟩:ByteArray),([]:List ByteArray),false,(⟨#[]⟩:ByteArray),false))) = some (r1,r2,r3,r4,r5):=H
     have A27:=Am A270
     clear A270
     by_cases c28:t271 = true
     ·subst c28
      have H1:((spec_AddrOk.f k1 a0_0 t272 t254 t270).bind fun t276=>(if t276 = true then (some (a0_0,t272,t254,t270,true)) else (some ((⟨#[]⟩:ByteArray),([]:List ByteArray),false,(⟨#[]⟩:ByteArray),false)))) = some (r1,r2,r3,r4,r5):=by rw [if_pos rfl] at H;exact H
      clear H
      have H:=H1
      clear H1
      replace H:=bI H
      obtain ⟨t276,A290,H⟩:=H
      replace H:(if t276 = true then (some (a0_0,t272,t254,t270,true)) else (some ((⟨#[]⟩:ByteArray),([]:List ByteArray),false,(⟨#[]⟩:ByteArray),false))) = some (r1,r2,r3,r4,r5):=H
      have A29:=Am A290
      clear A290
      by_cases c30:t276 = true
      ·subst c30
       have H1:(some (a0_0,t272,t254,t270,true)) = some (r1,r2,r3,r4,r5):=by rw [if_pos rfl] at H;exact H
       clear H
       have H:=H1
       clear H1
       simp only [Option.some.injEq,Prod.mk.injEq] at H
       obtain ⟨rfl,rfl,rfl,rfl,rfl⟩:=H
       obtain ⟨Ao31,co31,eo31⟩:=Kd.R_slice HO_9.out
       subst eo31
       try go_wp2_with (first|((with_reducible refine gate_callee (f:=60) rfl ?_);refine goesL_ (some 51) rfl rfl Tryd.func60 (by kernel_rfl) rfl #[.string t253] rfl (aE1 rfl) ?_;(with_reducible refine (spec_EscNorm.calls k1 t253 t270 true _ A26.out).mono ?_);rintro e w32 ⟨rfl,hb⟩;refine ⟨_,rfl,?_⟩;have n0_:=Am (Kd.R_below (bR HO_8.out) hb);have n1_:=Am (Kd.R_below (bR HO_9.out) hb);have n2_:=Am (blk_below (bB BK250.out) hb);have n3_:=Am (blk_below (bB BK251.out) hb);have n4_:=Am (bT (by repeat (first|(with_reducible first|exact HB.out|apply bA|apply bN|apply bD|refine bS ?_ GE250.out|refine bS ?_ GE251.out)|exact HB.out)) hb);clear HO_8 HO_9 BK250 BK251 HB;have HO_8:=n0_;have HO_9:=n1_;have BK250:=n2_;have BK251:=n3_;have HB:=n4_;clear n0_ n1_ n2_ n3_ n4_;(try clear hb);obtain ⟨Ao33,co33,eo33⟩:=Kd.R_slice HO_8.out;subst eo33))
       have n0_:=Am (Kd.R_drew HO_8.out)
       have n1_:=Am (Kd.R_drew HO_9.out)
       have n2_:=Am (blk_drew BK250.out)
       have n3_:=Am (blk_drew BK251.out)
       have n4_:=Am (below_drew1 HB.out)
       clear HO_8
       clear HO_9
       clear BK250
       clear BK251
       clear HB
       have HO_8:=n0_
       have HO_9:=n1_
       have BK250:=n2_
       have BK251:=n3_
       have HB:=n4_
       clear n0_ n1_ n2_ n3_ n4_
       refine start_ (n:=9) (S:=fun w'=>w'.cell? ⟨gb250,0,none⟩ = some (.string a0_0) ∧ w'.cell? ⟨gb250,1,none⟩ = some (.slice A0_1 l0_1.length c0_1) ∧ w'.cell? ⟨gb250,2,none⟩ = some (.bool a0_2) ∧ w'.cell? ⟨gb250,3,none⟩ = some (.string a0_3)) (ds:=[]) #[false,false,false,false,false,false,false,false,false] (by kernel_rfl) rfl rfl ⟨bM BK250.out 0 rfl,bM BK250.out 1 rfl,bM BK250.out 2 rfl,bM BK250.out 3 rfl⟩ (fun hHeld=>?_);refine with_tabW spec_l1Way.tab12 spec_l1Way.bits12 (fun HT_ HW_=>?_)
       generalize w32.drew = w34 at HO_8 HO_9 BK250 BK251 HB hHeld ⊢
       refine pure_ (i:=0) (N:=some 54) (v:=?_) (a':=?_) #[true,false,false,false,false,false,false,false,false] rfl rfl (any_of HT_.out (by kernel_rfl)) (fun _ _ _ h=>h) (Or.inl ⟨by rfl,?_⟩) ?_ ?_
       rotate_left
       ·intro w'
        go_simp
        with_reducible rfl
       rotate_left
       ·simp only [Act.put,List.setIfInBounds_toArray,List.set_cons_zero,List.set_cons_succ,i64_w,i32_w]
        rfl
       refine pure_ (i:=2) (N:=some 56) (v:=?_) (a':=?_) #[true,false,true,false,false,false,false,false,false] rfl rfl (any_of HT_.out (by kernel_rfl)) (fun _ _ _ h=>h) (Or.inl ⟨by rfl,?_⟩) ?_ ?_
       rotate_left
       ·intro w'
        go_simp
        with_reducible rfl
       rotate_left
       ·simp only [Act.put,List.setIfInBounds_toArray,List.set_cons_zero,List.set_cons_succ,i64_w,i32_w]
        rfl
       refine pure_ (i:=4) (N:=some 58) (v:=?_) (a':=?_) #[true,false,true,false,true,false,false,false,false] rfl rfl (any_of HT_.out (by kernel_rfl)) (fun _ _ _ h=>h) (Or.inl ⟨by rfl,?_⟩) ?_ ?_
       rotate_left
       ·intro w'
        go_simp
        with_reducible rfl
       rotate_left
       ·simp only [Act.put,List.setIfInBounds_toArray,List.set_cons_zero,List.set_cons_succ,i64_w,i32_w]
        rfl
       refine pure_ (i:=5) (N:=some 59) (v:=?_) (a':=?_) #[true,false,true,false,true,true,false,false,false] rfl rfl (any_of HT_.out (by kernel_rfl)) (fun _ _ _ h=>h) (Or.inl ⟨by rfl,?_⟩) ?_ ?_
       rotate_left
       ·intro w'
        go_simp
        with_reducible rfl
       rotate_left
       ·simp only [Act.put,List.setIfInBounds_toArray,List.set_cons_zero,List.set_cons_succ,i64_w,i32_w]
        rfl
       refine take_ (i:=1) (N:=some 55) (v:=?_) (a':=?_) #[true,true,true,false,true,true,false,false,false] rfl rfl (take_ofW HT_.out HW_.out (by kernel_rfl)) (fun _ _ _ h=>h) (Or.inl ⟨by rfl,?_⟩) hHeld ?_ ?_
       rotate_left
       ·rintro w' ⟨s0,s1,s2,s3⟩
        go_simp
        with_reducible rfl
       rotate_left
       ·simp only [Act.put,List.setIfInBounds_toArray,List.set_cons_zero,List.set_cons_succ,i64_w,i32_w]
        rfl
       refine join_ (σ:=Value × Nat) 1 #[true,true,true,true,true,true,true,true,false] (fun s_=>[(57,s_.1),(15, .pointer (some ⟨s_.2,0,none⟩)),(60, .agg #[.string a0_0,s_.1, .bool t254, .string t270])]) (fun s_ w'=>(w'.cell? ⟨gb250,0,none⟩ = some (.string a0_0) ∧ w'.cell? ⟨gb250,1,none⟩ = some (.slice A0_1 l0_1.length c0_1) ∧ w'.cell? ⟨gb250,2,none⟩ = some (.bool a0_2) ∧ w'.cell? ⟨gb250,3,none⟩ = some (.string a0_3)) ∧ (Kd.R Kd.string 9 w' w.heap.size (fun k_=>some k_ ≠ (.slice Ao33 x8_1.length co33:Value).ownBlock ∧ some k_ ≠ (.slice Ao31 t261.length co31:Value).ownBlock) s_.1 t272) ∧ (Kd.R Kd.string 9 w' w.heap.size (fun k_=>some k_ ≠ (s_.1:Value).ownBlock ∧ some k_ ≠ (.slice Ao31 t261.length co31:Value).ownBlock) (.slice Ao33 x8_1.length co33) x8_1) ∧ (Kd.R Kd.string 9 w' w.heap.size (fun k_=>some k_ ≠ (s_.1:Value).ownBlock ∧ some k_ ≠ (.slice Ao33 x8_1.length co33:Value).ownBlock) (.slice Ao31 t261.length co31) t261) ∧ (w'.heap[gb250]? = some (.cells #[.string a0_0, .slice A0_1 l0_1.length c0_1, .bool a0_2, .string a0_3] 25 (0,0))) ∧ (w'.heap[gb251]? = some (.cells #[.string x252000_1, .slice none 0 0, .bool x252002_1, .string x252003_1] 25 (0,0))) ∧ (w'.heap[s_.2]? = some (.cells #[.string (⟨#[]⟩:ByteArray), .slice none 0 0, .bool false, .string (⟨#[]⟩:ByteArray)] 25 (0,0))) ∧ (w.heap.size ≤ s_.2) ∧ (w.heap.size ≤ s_.2) ∧ (gb250 ≠ s_.2) ∧ (s_.2 ≠ gb250) ∧ (gb251 ≠ s_.2) ∧ (s_.2 ≠ gb251) ∧ (Below w.heap.size w w')) ?_ ?_
       rotate_left
       ·intro hCont
        refine two_ (i:=3) (j:=7) (Ni:=some 57) (Nj:=some 15) #[true,true,true,true,true,true,false,false,false] #[true,true,true,false,true,true,false,true,false] rfl rfl rfl rfl (two_of HT_.out (by kernel_rfl)) (by decide) (by decide) (fun K hK=>?_) (fun K hK=>?_)
        ·skip
         refine goes_ Tryd.func61 (by kernel_rfl) rfl #[.slice Ao33 x8_1.length co33] (by rfl) rfl rfl (by (try simp only [List.map_toArray,List.map_cons,List.map_nil]);first|done|rfl|(simp only [List.length_drop,List.length_take];rfl)) ?_
         with_reducible refine (spec_PathClean.calls k1 _ _ x8_1 t272 _ ?side1 ?side2 A27.out).mono ?_
         (case side1=>repeat (first|exact (Kd.R_reads' HO_8.out).2.2|(with_reducible refine bC ?_)))
         (case side2=>exact (Kd.R_reads' HO_8.out).2.1)
         rintro e w35 ⟨v273,rfl,ho0,hb⟩
         refine ⟨_,rfl,?_⟩
         have n0_:=Am (Kd.R_elder' (bR HO_8.out) (Kd.R_base ho0) hb)
         have n1_:=Am (Kd.R_elder' (bR HO_9.out) (Kd.R_base ho0) hb)
         have n2_:=Am (Kd.R_lower (Kd.R_new' (Kd.R_new' ho0 (Kd.R_lt (bR HO_8.out))) (Kd.R_lt (bR HO_9.out))) (bU (by repeat (first|(with_reducible first|exact HB.out|apply bA|apply bN|apply bD|refine bS ?_ GE250.out|refine bS ?_ GE251.out)|exact HB.out))))
         have n3_:=Am (blk_below (bB BK250.out) hb)
         have n4_:=Am (blk_below (bB BK251.out) hb)
         have n5_:=Am (bT (by repeat (first|(with_reducible first|exact HB.out|apply bA|apply bN|apply bD|refine bS ?_ GE250.out|refine bS ?_ GE251.out)|exact HB.out)) hb)
         clear HO_8
         clear HO_9
         clear BK250
         clear BK251
         clear HB
         have HO_8:=n0_
         have HO_9:=n1_
         have HO274:=n2_
         have BK250:=n3_
         have BK251:=n4_
         have HB:=n5_
         clear n0_ n1_ n2_ n3_ n4_ n5_
         (try clear hb)
         (try clear hb2)
         (try clear hk)
         (try clear hi)
         (try clear ho0)
         obtain ⟨Ao36,co36,eo36⟩:=Kd.R_slice HO274.out
         (first|subst eo36|(injection eo36 with f1_ f2_ f3_;have f4_:=f1_.symm;have f5_:=f3_.symm;clear f1_ f2_ f3_;subst f4_;subst f5_))
         refine hK.out _ _ ⟨bM BK250.out 0 rfl,bM BK250.out 1 rfl,bM BK250.out 2 rfl,bM BK250.out 3 rfl⟩ (fun hHeld=>?_)
         clear hK K
         refine norm_ (a':=?_) ?_ ?_
         rotate_left
         ·show Act.put _ (some 57) _ = _
          simp only [Act.put,List.setIfInBounds_toArray,List.set_cons_zero,List.set_cons_succ,i64_w,i32_w]
          rfl
         refine pure_ (i:=6) (N:=some 60) (v:=?_) (a':=?_) #[true,true,true,true,true,true,true,false,false] rfl rfl (any_of HT_.out (by kernel_rfl)) (fun _ _ _ h=>h) (Or.inl ⟨by rfl,?_⟩) ?_ ?_
         rotate_left
         ·intro w'
          go_simp
          with_reducible rfl
         rotate_left
         ·simp only [Act.put,List.setIfInBounds_toArray,List.set_cons_zero,List.set_cons_succ,i64_w,i32_w]
          rfl
         refine one_ (i:=7) (N:=some 15) #[true,true,true,true,true,true,true,true,false] rfl rfl (one_of HT_.out (by kernel_rfl)) (by decide) (fun K hK=>?_)
         refine box_step ?hg (N:=15) ?hd (cs:=#[.string (⟨#[]⟩:ByteArray), .slice none 0 0, .bool false, .string (⟨#[]⟩:ByteArray)]) (t:=25) ?hr ?_;(case hd=>rfl);(case hg=>rfl);(case hr=>(go_simp <;> rfl))
         intro gb275 hg w37 hbox hb
         have n0_:=Am (Kd.R_below (bR HO_8.out) hb)
         have n1_:=Am (Kd.R_below (bR HO_9.out) hb)
         have n2_:=Am (Kd.R_below (bR HO274.out) hb)
         have n3_:=Am (blk_below (bB BK250.out) hb)
         have n4_:=Am (blk_below (bB BK251.out) hb)
         have n5_:=Am (bT (by repeat (first|(with_reducible first|exact HB.out|apply bA|apply bN|apply bD|refine bS ?_ GE250.out|refine bS ?_ GE251.out)|exact HB.out)) hb)
         have n6_:=Am (hbox)
         have n7_:=Am ((by rw [hg];exact (bU (by repeat (first|(with_reducible first|exact HB.out|apply bA|apply bN|apply bD|refine bS ?_ GE250.out|refine bS ?_ GE251.out)|exact HB.out))):w.heap.size ≤ gb275))
         have n8_:=Am ((by rw [hg];exact (bU (by repeat (first|(with_reducible first|exact HB.out|apply bA|apply bN|apply bD|refine bS ?_ GE250.out|refine bS ?_ GE251.out)|exact HB.out))):w.heap.size ≤ gb275))
         have n9_:=Am ((by rw [hg];exact Nat.ne_of_lt (blk_lt (bB BK250.out)):gb250 ≠ gb275))
         have n10_:=Am ((by rw [hg];exact Nat.ne_of_gt (blk_lt (bB BK250.out)):gb275 ≠ gb250))
         have n11_:=Am ((by rw [hg];exact Nat.ne_of_lt (blk_lt (bB BK251.out)):gb251 ≠ gb275))
         have n12_:=Am ((by rw [hg];exact Nat.ne_of_gt (blk_lt (bB BK251.out)):gb275 ≠ gb251))
         clear HO_8
         clear HO_9
         clear HO274
         clear BK250
         clear BK251
         clear HB
         have HO_8:=n0_
         have HO_9:=n1_
         have HO274:=n2_
         have BK250:=n3_
         have BK251:=n4_
         have HB:=n5_
         have BK275:=n6_
         have GW275:=n7_
         have GE275:=n8_
         have NB250_275:=n9_
         have NB275_250:=n10_
         have NB251_275:=n11_
         have NB275_251:=n12_
         clear n0_ n1_ n2_ n3_ n4_ n5_ n6_ n7_ n8_ n9_ n10_ n11_ n12_
         clear hb hbox hg
         refine hK.out _ _ ⟨bM BK250.out 0 rfl,bM BK250.out 1 rfl,bM BK250.out 2 rfl,bM BK250.out 3 rfl⟩ (fun hHeld=>?_)
         clear hK K
         refine norm_ (a':=?_) ?_ ?_
         rotate_left
         ·show Act.put _ (some 15) _ = _
          simp only [Act.put,List.setIfInBounds_toArray,List.set_cons_zero,List.set_cons_succ,i64_w,i32_w]
          rfl
         exact norm_ (by simp only [putAll,Act.put,List.setIfInBounds_toArray,List.set_cons_zero,List.set_cons_succ]) (hCont (.slice Ao36 t272.length co36,gb275) _ ⟨hHeld,(by (with_reducible repeat (first|apply rA|apply rN|apply rD));exact Kd.R_mono HO274.out (fun _ hk=>⟨hk.1.2,hk.2⟩)),(by (with_reducible repeat (first|apply rA|apply rN|apply rD));exact Kd.R_mono HO_8.out (fun _ hk=>⟨hk.2,hk.1⟩)),(by (with_reducible repeat (first|apply rA|apply rN|apply rD));exact Kd.R_mono HO_9.out (fun _ hk=>⟨hk.2,hk.1⟩)),(bB BK250.out),(bB BK251.out),(bB BK275.out),GW275.out,GE275.out,NB250_275.out,NB275_250.out,NB251_275.out,NB275_251.out,(by repeat (first|(with_reducible first|exact HB.out|apply bA|apply bN|apply bD|refine bS ?_ GE250.out|refine bS ?_ GE251.out|refine bS ?_ GE275.out)|exact HB.out))⟩)
        ·skip
         refine box_step ?hg (N:=15) ?hd (cs:=#[.string (⟨#[]⟩:ByteArray), .slice none 0 0, .bool false, .string (⟨#[]⟩:ByteArray)]) (t:=25) ?hr ?_;(case hd=>rfl);(case hg=>rfl);(case hr=>(go_simp <;> rfl))
         intro gb275 hg w35 hbox hb
         have n0_:=Am (Kd.R_below (bR HO_8.out) hb)
         have n1_:=Am (Kd.R_below (bR HO_9.out) hb)
         have n2_:=Am (blk_below (bB BK250.out) hb)
         have n3_:=Am (blk_below (bB BK251.out) hb)
         have n4_:=Am (bT (by repeat (first|(with_reducible first|exact HB.out|apply bA|apply bN|apply bD|refine bS ?_ GE250.out|refine bS ?_ GE251.out)|exact HB.out)) hb)
         have n5_:=Am (hbox)
         have n6_:=Am ((by rw [hg];exact (bU (by repeat (first|(with_reducible first|exact HB.out|apply bA|apply bN|apply bD|refine bS ?_ GE250.out|refine bS ?_ GE251.out)|exact HB.out))):w.heap.size ≤ gb275))
         have n7_:=Am ((by rw [hg];exact (bU (by repeat (first|(with_reducible first|exact HB.out|apply bA|apply bN|apply bD|refine bS ?_ GE250.out|refine bS ?_ GE251.out)|exact HB.out))):w.heap.size ≤ gb275))
         have n8_:=Am ((by rw [hg];exact Nat.ne_of_lt (blk_lt (bB BK250.out)):gb250 ≠ gb275))
         have n9_:=Am ((by rw [hg];exact Nat.ne_of_gt (blk_lt (bB BK250.out)):gb275 ≠ gb250))
         have n10_:=Am ((by rw [hg];exact Nat.ne_of_lt (blk_lt (bB BK251.out)):gb251 ≠ gb275))
         have n11_:=Am ((by rw [hg];exact Nat.ne_of_gt (blk_lt (bB BK251.out)):gb275 ≠ gb251))
         clear HO_8
         clear HO_9
         clear BK250
         clear BK251
         clear HB
         have HO_8:=n0_
         have HO_9:=n1_
         have BK250:=n2_
         have BK251:=n3_
         have HB:=n4_
         have BK275:=n5_
         have GW275:=n6_
         have GE275:=n7_
         have NB250_275:=n8_
         have NB275_250:=n9_
         have NB251_275:=n10_
         have NB275_251:=n11_
         clear n0_ n1_ n2_ n3_ n4_ n5_ n6_ n7_ n8_ n9_ n10_ n11_
         clear hb hbox hg
         refine hK.out _ _ ⟨bM BK250.out 0 rfl,bM BK250.out 1 rfl,bM BK250.out 2 rfl,bM BK250.out 3 rfl⟩ (fun hHeld=>?_)
         clear hK K
         refine norm_ (a':=?_) ?_ ?_
         rotate_left
         ·show Act.put _ (some 15) _ = _
          simp only [Act.put,List.setIfInBounds_toArray,List.set_cons_zero,List.set_cons_succ,i64_w,i32_w]
          rfl
         refine one_ (i:=3) (N:=some 57) #[true,true,true,true,true,true,false,true,false] rfl rfl (one_of HT_.out (by kernel_rfl)) (by decide) (fun K hK=>?_)
         refine goes_ Tryd.func61 (by kernel_rfl) rfl #[.slice Ao33 x8_1.length co33] (by rfl) rfl rfl (by (try simp only [List.map_toArray,List.map_cons,List.map_nil]);first|done|rfl|(simp only [List.length_drop,List.length_take];rfl)) ?_
         with_reducible refine (spec_PathClean.calls k1 _ _ x8_1 t272 _ ?side1 ?side2 A27.out).mono ?_
         (case side1=>repeat (first|exact (Kd.R_reads' HO_8.out).2.2|(with_reducible refine bC ?_)))
         (case side2=>exact (Kd.R_reads' HO_8.out).2.1)
         rintro e w36 ⟨v273,rfl,ho0,hb⟩
         refine ⟨_,rfl,?_⟩
         have n0_:=Am (Kd.R_elder' (bR HO_8.out) (Kd.R_base ho0) hb)
         have n1_:=Am (Kd.R_elder' (bR HO_9.out) (Kd.R_base ho0) hb)
         have n2_:=Am (Kd.R_lower (Kd.R_new' (Kd.R_new' ho0 (Kd.R_lt (bR HO_8.out))) (Kd.R_lt (bR HO_9.out))) (bU (by repeat (first|(with_reducible first|exact HB.out|apply bA|apply bN|apply bD|refine bS ?_ GE250.out|refine bS ?_ GE251.out|refine bS ?_ GE275.out)|exact HB.out))))
         have n3_:=Am (blk_below (bB BK250.out) hb)
         have n4_:=Am (blk_below (bB BK251.out) hb)
         have n5_:=Am (blk_below (bB BK275.out) hb)
         have n6_:=Am (bT (by repeat (first|(with_reducible first|exact HB.out|apply bA|apply bN|apply bD|refine bS ?_ GE250.out|refine bS ?_ GE251.out|refine bS ?_ GE275.out)|exact HB.out)) hb)
         clear HO_8
         clear HO_9
         clear BK250
         clear BK251
         clear BK275
         clear HB
         have HO_8:=n0_
         have HO_9:=n1_
         have HO274:=n2_
         have BK250:=n3_
         have BK251:=n4_
         have BK275:=n5_
         have HB:=n6_
         clear n0_ n1_ n2_ n3_ n4_ n5_ n6_
         (try clear hb)
         (try clear hb2)
         (try clear hk)
         (try clear hi)
         (try clear ho0)
         obtain ⟨Ao37,co37,eo37⟩:=Kd.R_slice HO274.out
         (first|subst eo37|(injection eo37 with f1_ f2_ f3_;have f4_:=f1_.symm;have f5_:=f3_.symm;clear f1_ f2_ f3_;subst f4_;subst f5_))
         refine hK.out _ _ ⟨bM BK250.out 0 rfl,bM BK250.out 1 rfl,bM BK250.out 2 rfl,bM BK250.out 3 rfl⟩ (fun hHeld=>?_)
         clear hK K
         refine norm_ (a':=?_) ?_ ?_
         rotate_left
         ·show Act.put _ (some 57) _ = _
          simp only [Act.put,List.setIfInBounds_toArray,List.set_cons_zero,List.set_cons_succ,i64_w,i32_w]
          rfl
         refine pure_ (i:=6) (N:=some 60) (v:=?_) (a':=?_) #[true,true,true,true,true,true,true,true,false] rfl rfl (any_of HT_.out (by kernel_rfl)) (fun _ _ _ h=>h) (Or.inl ⟨by rfl,?_⟩) ?_ ?_
         rotate_left
         ·intro w'
          go_simp
          with_reducible rfl
         rotate_left
         ·simp only [Act.put,List.setIfInBounds_toArray,List.set_cons_zero,List.set_cons_succ,i64_w,i32_w]
          rfl
         exact norm_ (by simp only [putAll,Act.put,List.setIfInBounds_toArray,List.set_cons_zero,List.set_cons_succ]) (hCont (.slice Ao37 t272.length co37,gb275) _ ⟨hHeld,(by (with_reducible repeat (first|apply rA|apply rN|apply rD));exact Kd.R_mono HO274.out (fun _ hk=>⟨hk.1.2,hk.2⟩)),(by (with_reducible repeat (first|apply rA|apply rN|apply rD));exact Kd.R_mono HO_8.out (fun _ hk=>⟨hk.2,hk.1⟩)),(by (with_reducible repeat (first|apply rA|apply rN|apply rD));exact Kd.R_mono HO_9.out (fun _ hk=>⟨hk.2,hk.1⟩)),(bB BK250.out),(bB BK251.out),(bB BK275.out),GW275.out,GE275.out,NB250_275.out,NB275_250.out,NB251_275.out,NB275_251.out,(by repeat (first|(with_reducible first|exact HB.out|apply bA|apply bN|apply bD|refine bS ?_ GE250.out|refine bS ?_ GE251.out|refine bS ?_ GE275.out)|exact HB.out))⟩)
       rintro ⟨v273,gb275⟩ w38 ⟨hS_,h0_,h1_,h2_,h3_,h4_,h5_,h6_,h7_,h8_,h9_,h10_,h11_,h12_⟩
       have n0_:Aside0 (Kd.R Kd.string 9 w38 w.heap.size (fun k_=>some k_ ≠ (.slice Ao33 x8_1.length co33:Value).ownBlock ∧ some k_ ≠ (.slice Ao31 t261.length co31:Value).ownBlock) v273 t272):=⟨h0_⟩
       have n1_:Aside0 (Kd.R Kd.string 9 w38 w.heap.size (fun k_=>some k_ ≠ (v273:Value).ownBlock ∧ some k_ ≠ (.slice Ao31 t261.length co31:Value).ownBlock) (.slice Ao33 x8_1.length co33) x8_1):=⟨h1_⟩
       have n2_:Aside0 (Kd.R Kd.string 9 w38 w.heap.size (fun k_=>some k_ ≠ (v273:Value).ownBlock ∧ some k_ ≠ (.slice Ao33 x8_1.length co33:Value).ownBlock) (.slice Ao31 t261.length co31) t261):=⟨h2_⟩
       have n3_:Aside0 (w38.heap[gb250]? = some (.cells #[.string a0_0, .slice A0_1 l0_1.length c0_1, .bool a0_2, .string a0_3] 25 (0,0))):=⟨h3_⟩
       have n4_:Aside0 (w38.heap[gb251]? = some (.cells #[.string x252000_1, .slice none 0 0, .bool x252002_1, .string x252003_1] 25 (0,0))):=⟨h4_⟩
       have n5_:Aside0 (w38.heap[gb275]? = some (.cells #[.string (⟨#[]⟩:ByteArray), .slice none 0 0, .bool false, .string (⟨#[]⟩:ByteArray)] 25 (0,0))):=⟨h5_⟩
       have n6_:Aside0 (w.heap.size ≤ gb275):=⟨h6_⟩
       have n7_:Aside0 (w.heap.size ≤ gb275):=⟨h7_⟩
       have n8_:Aside0 (gb250 ≠ gb275):=⟨h8_⟩
       have n9_:Aside0 (gb275 ≠ gb250):=⟨h9_⟩
       have n10_:Aside0 (gb251 ≠ gb275):=⟨h10_⟩
       have n11_:Aside0 (gb275 ≠ gb251):=⟨h11_⟩
       have n12_:Aside0 (Below w.heap.size w w38):=⟨h12_⟩
       clear HO_8
       clear HO_9
       clear BK250
       clear BK251
       clear HB
       clear h0_ h1_ h2_ h3_ h4_ h5_ h6_ h7_ h8_ h9_ h10_ h11_ h12_
       have HO274:=n0_
       have HO_8:=n1_
       have HO_9:=n2_
       have BK250:=n3_
       have BK251:=n4_
       have BK275:=n5_
       have GW275:=n6_
       have GE275:=n7_
       have NB250_275:=n8_
       have NB275_250:=n9_
       have NB251_275:=n10_
       have NB275_251:=n11_
       have HB:=n12_
       clear n0_ n1_ n2_ n3_ n4_ n5_ n6_ n7_ n8_ n9_ n10_ n11_ n12_
       have hHeld:w38.cell? ⟨gb250,0,none⟩ = some (.string a0_0) ∧ w38.cell? ⟨gb250,1,none⟩ = some (.slice A0_1 l0_1.length c0_1) ∧ w38.cell? ⟨gb250,2,none⟩ = some (.bool a0_2) ∧ w38.cell? ⟨gb250,3,none⟩ = some (.string a0_3):=hS_
       obtain ⟨Ao39,co39,eo39⟩:=Kd.R_slice HO274.out
       (first|subst eo39|(injection eo39 with f1_ f2_ f3_;have f4_:=f1_.symm;have f5_:=f3_.symm;clear f1_ f2_ f3_;subst f4_;subst f5_))
       refine norm_ (a':=?_) ?_ ?_
       rotate_left
       ·simp only [putAll,Act.put,List.setIfInBounds_toArray,List.set_cons_zero,List.set_cons_succ]
        rfl
       refine one_ (i:=8) (N:=none) #[true,true,true,true,true,true,true,true,true] rfl rfl (one_of HT_.out (by kernel_rfl)) (by decide) (fun K hK=>?_)
       have hs40:w38.cell? ⟨gb275,0,none⟩ = some (.string (⟨#[]⟩:ByteArray)):=bM BK275.out 0 rfl
       have hfs40:=bZ BK275.out 0
       have hns40_0:=NB250_275.out
       have hns40_1:=NB251_275.out
       have hms40_0:=NB275_250.out
       have hms40_1:=NB275_251.out
       have hs41:w38.cell? ⟨gb275,1,none⟩ = some (.slice none 0 0):=bM BK275.out 1 rfl
       have hfs41:=bZ BK275.out 1
       have hns41_0:=NB250_275.out
       have hns41_1:=NB251_275.out
       have hms41_0:=NB275_250.out
       have hms41_1:=NB275_251.out
       have hs42:w38.cell? ⟨gb275,2,none⟩ = some (.bool false):=bM BK275.out 2 rfl
       have hfs42:=bZ BK275.out 2
       have hns42_0:=NB250_275.out
       have hns42_1:=NB251_275.out
       have hms42_0:=NB275_250.out
       have hms42_1:=NB275_251.out
       have hs43:w38.cell? ⟨gb275,3,none⟩ = some (.string (⟨#[]⟩:ByteArray)):=bM BK275.out 3 rfl
       have hfs43:=bZ BK275.out 3
       have hns43_0:=NB250_275.out
       have hns43_1:=NB251_275.out
       have hms43_0:=NB275_250.out
       have hms43_1:=NB275_251.out
       refine skip_ (w1:=?_) (by rfl) rfl ?_ ?_
       rotate_left
       ·go_simp
        rfl
       refine hK.out _ _ ⟨((cell_far (p:=⟨gb275,_,none⟩) NB250_275.out _).trans (((cell_far (p:=⟨gb275,_,none⟩) NB250_275.out _).trans (((cell_far (p:=⟨gb275,_,none⟩) NB250_275.out _).trans (((cell_far (p:=⟨gb275,_,none⟩) NB250_275.out _).trans (hHeld.1)))))))),((cell_far (p:=⟨gb275,_,none⟩) NB250_275.out _).trans (((cell_far (p:=⟨gb275,_,none⟩) NB250_275.out _).trans (((cell_far (p:=⟨gb275,_,none⟩) NB250_275.out _).trans (((cell_far (p:=⟨gb275,_,none⟩) NB250_275.out _).trans (hHeld.2.1)))))))),((cell_far (p:=⟨gb275,_,none⟩) NB250_275.out _).trans (((cell_far (p:=⟨gb275,_,none⟩) NB250_275.out _).trans (((cell_far (p:=⟨gb275,_,none⟩) NB250_275.out _).trans (((cell_far (p:=⟨gb275,_,none⟩) NB250_275.out _).trans (hHeld.2.2.1)))))))),((cell_far (p:=⟨gb275,_,none⟩) NB250_275.out _).trans (((cell_far (p:=⟨gb275,_,none⟩) NB250_275.out _).trans (((cell_far (p:=⟨gb275,_,none⟩) NB250_275.out _).trans (((cell_far (p:=⟨gb275,_,none⟩) NB250_275.out _).trans (hHeld.2.2.2))))))))⟩ (fun hHeld=>?_)
       clear hK K
       refine done_ (done_of HT_.out (by kernel_rfl)) ?_
       have hnb44:=NB275_250.out
       have hnc44:=NB250_275.out
       have hnb45:=NB275_251.out
       have hnc45:=NB251_275.out
       have hcz46_0:w38.cell? ⟨gb275,0,none⟩ = some (.string (⟨#[]⟩:ByteArray)):=bM BK275.out 0 rfl
       have hcz46_1:w38.cell? ⟨gb275,1,none⟩ = some (.slice none 0 0):=bM BK275.out 1 rfl
       have hcz46_2:w38.cell? ⟨gb275,2,none⟩ = some (.bool false):=bM BK275.out 2 rfl
       have hcz46_3:w38.cell? ⟨gb275,3,none⟩ = some (.string (⟨#[]⟩:ByteArray)):=bM BK275.out 3 rfl
       have hfz46_0:=bZ BK275.out 0
       have hfz46_1:=bZ BK275.out 1
       have hfz46_2:=bZ BK275.out 2
       have hfz46_3:=bZ BK275.out 3
       try go_wp2_with (first|(go_at_call 15;(with_reducible refine (spec_AddrOk.calls k1 a0_0 _ _ t272 t254 t270 true _ ?side1 ?side2 A29.out).mono ?_);(case side1=>refine (Kd.R_reads' (e:=9) (base:=w.heap.size) (ok:=fun k_=>(some k_ ≠ (.slice Ao33 x8_1.length co33:Value).ownBlock ∧ some k_ ≠ (.slice Ao31 t261.length co31:Value).ownBlock)) (n:=t272.length) (c:=co39) ?_).2.2;exact (by (with_reducible repeat (first|apply rA|apply rN|apply rD));exact (bQ HO274.out BK275.out (by decide) _ _ _ _)));(case side2=>exact (Kd.R_reads' HO274.out).2.1);rintro e w47 ⟨rfl,hb⟩;have n0_:=Am (Kd.R_below (by (with_reducible repeat (first|apply rA|apply rN|apply rD));exact (bQ HO_8.out BK275.out (by decide) _ _ _ _)) hb);have n1_:=Am (Kd.R_below (by (with_reducible repeat (first|apply rA|apply rN|apply rD));exact (bQ HO_9.out BK275.out (by decide) _ _ _ _)) hb);have n2_:=Am (Kd.R_below (by (with_reducible repeat (first|apply rA|apply rN|apply rD));exact (bQ HO274.out BK275.out (by decide) _ _ _ _)) hb);have n3_:=Am (blk_below (g:=gb250) (o:=.cells #[.string a0_0, .slice A0_1 l0_1.length c0_1, .bool a0_2, .string a0_3] 25 (0,0)) (by refine bB ?_;refine bF ?_ NB250_275.out;refine bB ?_;exact BK250.out) hb);have n4_:=Am (blk_below (g:=gb251) (o:=.cells #[.string x252000_1, .slice none 0 0, .bool x252002_1, .string x252003_1] 25 (0,0)) (by refine bB ?_;refine bF ?_ NB251_275.out;refine bB ?_;exact BK251.out) hb);have n5_:=Am (blk_below (g:=gb275) (o:=.cells #[.string a0_0, .slice Ao39 t272.length co39, .bool t254, .string t270] 25 (0,0)) (by refine bB ?_;apply bP;refine bB ?_;exact BK275.out) hb);have n6_:=Am (bT (by repeat (first|(with_reducible first|exact HB.out|apply bA|apply bN|apply bD|refine bS ?_ GE250.out|refine bS ?_ GE251.out|refine bS ?_ GE275.out)|exact HB.out)) hb);clear HO_8 HO_9 HO274 BK250 BK251 BK275 HB;have HO_8:=n0_;have HO_9:=n1_;have HO274:=n2_;have BK250:=n3_;have BK251:=n4_;have BK275:=n5_;have HB:=n6_;clear n0_ n1_ n2_ n3_ n4_ n5_ n6_;(try clear hb);have hcz48_0:w47.cell? ⟨gb275,0,none⟩ = some (.string a0_0):=bM BK275.out 0 rfl;have hcz48_1:w47.cell? ⟨gb275,1,none⟩ = some (.slice Ao39 t272.length co39):=bM BK275.out 1 rfl;have hcz48_2:w47.cell? ⟨gb275,2,none⟩ = some (.bool t254):=bM BK275.out 2 rfl;have hcz48_3:w47.cell? ⟨gb275,3,none⟩ = some (.string t270):=bM BK275.out 3 rfl;have hfz48_0:=bZ BK275.out 0;have hfz48_1:=bZ BK275.out 1;have hfz48_2:=bZ BK275.out 2;have hfz48_3:=bZ BK275.out 3;have hnb49:=NB251_250.out;have hnc49:=NB250_251.out;have hcz50_0:w47.cell? ⟨gb251,0,none⟩ = some (.string x252000_1):=bM BK251.out 0 rfl;have hcz50_1:w47.cell? ⟨gb251,1,none⟩ = some (.slice none 0 0):=bM BK251.out 1 rfl;have hcz50_2:w47.cell? ⟨gb251,2,none⟩ = some (.bool x252002_1):=bM BK251.out 2 rfl;have hcz50_3:w47.cell? ⟨gb251,3,none⟩ = some (.string x252003_1):=bM BK251.out 3 rfl;have hfz50_0:=bZ BK251.out 0;have hfz50_1:=bZ BK251.out 1;have hfz50_2:=bZ BK251.out 2;have hfz50_3:=bZ BK251.out 3))
       refine bodyPost_ret (results_ct rfl _ _ gb251 25 #[.string a0_0, .slice Ao39 t272.length co39, .bool t254, .string t270] (0,0) _ rfl (by refine bB ?_;apply bP;refine bB ?_;exact BK251.out) Tryd.underlying25 rfl (by kernel_rfl)) rfl ?_
       exact ⟨_,by first|rfl|(simp <;> rfl)|(simp [*] <;> rfl),by (with_reducible repeat (first|apply rA|apply rN|apply rD));exact Kd.R_mono (Kd.R_far (p:=⟨gb251,3,none⟩) (Kd.R_far (p:=⟨gb251,2,none⟩) (Kd.R_far (p:=⟨gb251,1,none⟩) (Kd.R_far (p:=⟨gb251,0,none⟩) (Kd.R_types HO274.out BK251.out (by decide)) (fun _ hk=>hk.2) (.string a0_0)) (fun _ hk=>hk.2) (.slice Ao39 t272.length co39)) (fun _ hk=>hk.2) (.bool t254)) (fun _ hk=>hk.2) (.string t270)) (fun _ hk=>trivial),by repeat (first|(with_reducible first|exact HB.out|apply bA|apply bN|apply bD|refine bS ?_ GE250.out|refine bS ?_ GE251.out|refine bS ?_ GE275.out)|exact HB.out)⟩
      ·replace c30:=Bool.eq_false_iff.mpr c30
       subst c30
       have H1:(some ((⟨#[]⟩:ByteArray),([]:List ByteArray),false,(⟨#[]⟩:ByteArray),false)) = some (r1,r2,r3,r4,r5):=by rw [if_neg (show ¬ (false = true) by decide)] at H;exact H
       clear H
       have H:=H1
       clear H1
       simp only [Option.some.injEq,Prod.mk.injEq] at H
       obtain ⟨rfl,rfl,rfl,rfl,rfl⟩:=H
       obtain ⟨Ao51,co51,eo51⟩:=Kd.R_slice HO_9.out
       subst eo51
       try go_wp2_with (first|((with_reducible refine gate_callee (f:=60) rfl ?_);refine goesL_ (some 51) rfl rfl Tryd.func60 (by kernel_rfl) rfl #[.string t253] rfl (aE1 rfl) ?_;(with_reducible refine (spec_EscNorm.calls k1 t253 t270 true _ A26.out).mono ?_);rintro e w52 ⟨rfl,hb⟩;refine ⟨_,rfl,?_⟩;have n0_:=Am (Kd.R_below (bR HO_8.out) hb);have n1_:=Am (Kd.R_below (bR HO_9.out) hb);have n2_:=Am (blk_below (bB BK250.out) hb);have n3_:=Am (blk_below (bB BK251.out) hb);have n4_:=Am (bT (by repeat (first|(with_reducible first|exact HB.out|apply bA|apply bN|apply bD|refine bS ?_ GE250.out|refine bS ?_ GE251.out)|exact HB.out)) hb);clear HO_8 HO_9 BK250 BK251 HB;have HO_8:=n0_;have HO_9:=n1_;have BK250:=n2_;have BK251:=n3_;have HB:=n4_;clear n0_ n1_ n2_ n3_ n4_;(try clear hb);obtain ⟨Ao53,co53,eo53⟩:=Kd.R_slice HO_8.out;subst eo53))
       have n0_:=Am (Kd.R_drew HO_8.out)
       have n1_:=Am (Kd.R_drew HO_9.out)
       have n2_:=Am (blk_drew BK250.out)
       have n3_:=Am (blk_drew BK251.out)
       have n4_:=Am (below_drew1 HB.out)
       clear HO_8
       clear HO_9
       clear BK250
       clear BK251
       clear HB
       have HO_8:=n0_
       have HO_9:=n1_
       have BK250:=n2_
       have BK251:=n3_
       have HB:=n4_
       clear n0_ n1_ n2_ n3_ n4_
       refine start_ (n:=9) (S:=fun w'=>w'.cell? ⟨gb250,0,none⟩ = some (.string a0_0) ∧ w'.cell? ⟨gb250,1,none⟩ = some (.slice A0_1 l0_1.length c0_1) ∧ w'.cell? ⟨gb250,2,none⟩ = some (.bool a0_2) ∧ w'.cell? ⟨gb250,3,none⟩ = some (.string a0_3)) (ds:=[]) #[false,false,false,false,false,false,false,false,false] (by kernel_rfl) rfl rfl ⟨bM BK250.out 0 rfl,bM BK250.out 1 rfl,bM BK250.out 2 rfl,bM BK250.out 3 rfl⟩ (fun hHeld=>?_);refine with_tabW spec_l1Way.tab12 spec_l1Way.bits12 (fun HT_ HW_=>?_)
       generalize w52.drew = w54 at HO_8 HO_9 BK250 BK251 HB hHeld ⊢
       refine pure_ (i:=0) (N:=some 54) (v:=?_) (a':=?_) #[true,false,false,false,false,false,false,false,false] rfl rfl (any_of HT_.out (by kernel_rfl)) (fun _ _ _ h=>h) (Or.inl ⟨by rfl,?_⟩) ?_ ?_
       rotate_left
       ·intro w'
        go_simp
        with_reducible rfl
       rotate_left
       ·simp only [Act.put,List.setIfInBounds_toArray,List.set_cons_zero,List.set_cons_succ,i64_w,i32_w]
        rfl
       refine pure_ (i:=2) (N:=some 56) (v:=?_) (a':=?_) #[true,false,true,false,false,false,false,false,false] rfl rfl (any_of HT_.out (by kernel_rfl)) (fun _ _ _ h=>h) (Or.inl ⟨by rfl,?_⟩) ?_ ?_
       rotate_left
       ·intro w'
        go_simp
        with_reducible rfl
       rotate_left
       ·simp only [Act.put,List.setIfInBounds_toArray,List.set_cons_zero,List.set_cons_succ,i64_w,i32_w]
        rfl
       refine pure_ (i:=4) (N:=some 58) (v:=?_) (a':=?_) #[true,false,true,false,true,false,false,false,false] rfl rfl (any_of HT_.out (by kernel_rfl)) (fun _ _ _ h=>h) (Or.inl ⟨by rfl,?_⟩) ?_ ?_
       rotate_left
       ·intro w'
        go_simp
        with_reducible rfl
       rotate_left
       ·simp only [Act.put,List.setIfInBounds_toArray,List.set_cons_zero,List.set_cons_succ,i64_w,i32_w]
        rfl
       refine pure_ (i:=5) (N:=some 59) (v:=?_) (a':=?_) #[true,false,true,false,true,true,false,false,false] rfl rfl (any_of HT_.out (by kernel_rfl)) (fun _ _ _ h=>h) (Or.inl ⟨by rfl,?_⟩) ?_ ?_
       rotate_left
       ·intro w'
        go_simp
        with_reducible rfl
       rotate_left
       ·simp only [Act.put,List.setIfInBounds_toArray,List.set_cons_zero,List.set_cons_succ,i64_w,i32_w]
        rfl
       refine take_ (i:=1) (N:=some 55) (v:=?_) (a':=?_) #[true,true,true,false,true,true,false,false,false] rfl rfl (take_ofW HT_.out HW_.out (by kernel_rfl)) (fun _ _ _ h=>h) (Or.inl ⟨by rfl,?_⟩) hHeld ?_ ?_
       rotate_left
       ·rintro w' ⟨s0,s1,s2,s3⟩
        go_simp
        with_reducible rfl
       rotate_left
       ·simp only [Act.put,List.setIfInBounds_toArray,List.set_cons_zero,List.set_cons_succ,i64_w,i32_w]
        rfl
       refine join_ (σ:=Value × Nat) 1 #[true,true,true,true,true,true,true,true,false] (fun s_=>[(57,s_.1),(15, .pointer (some ⟨s_.2,0,none⟩)),(60, .agg #[.string a0_0,s_.1, .bool t254, .string t270])]) (fun s_ w'=>(w'.cell? ⟨gb250,0,none⟩ = some (.string a0_0) ∧ w'.cell? ⟨gb250,1,none⟩ = some (.slice A0_1 l0_1.length c0_1) ∧ w'.cell? ⟨gb250,2,none⟩ = some (.bool a0_2) ∧ w'.cell? ⟨gb250,3,none⟩ = some (.string a0_3)) ∧ (Kd.R Kd.string 9 w' w.heap.size (fun k_=>some k_ ≠ (.slice Ao53 x8_1.length co53:Value).ownBlock ∧ some k_ ≠ (.slice Ao51 t261.length co51:Value).ownBlock) s_.1 t272) ∧ (Kd.R Kd.string 9 w' w.heap.size (fun k_=>some k_ ≠ (s_.1:Value).ownBlock ∧ some k_ ≠ (.slice Ao51 t261.length co51:Value).ownBlock) (.slice Ao53 x8_1.length co53) x8_1) ∧ (Kd.R Kd.string 9 w' w.heap.size (fun k_=>some k_ ≠ (s_.1:Value).ownBlock ∧ some k_ ≠ (.slice Ao53 x8_1.length co53:Value).ownBlock) (.slice Ao51 t261.length co51) t261) ∧ (w'.heap[gb250]? = some (.cells #[.string a0_0, .slice A0_1 l0_1.length c0_1, .bool a0_2, .string a0_3] 25 (0,0))) ∧ (w'.heap[gb251]? = some (.cells #[.string x252000_1, .slice none 0 0, .bool x252002_1, .string x252003_1] 25 (0,0))) ∧ (w'.heap[s_.2]? = some (.cells #[.string (⟨#[]⟩:ByteArray), .slice none 0 0, .bool false, .string (⟨#[]⟩:ByteArray)] 25 (0,0))) ∧ (w.heap.size ≤ s_.2) ∧ (w.heap.size ≤ s_.2) ∧ (gb250 ≠ s_.2) ∧ (s_.2 ≠ gb250) ∧ (gb251 ≠ s_.2) ∧ (s_.2 ≠ gb251) ∧ (Below w.heap.size w w')) ?_ ?_
       rotate_left
       ·intro hCont
        refine two_ (i:=3) (j:=7) (Ni:=some 57) (Nj:=some 15) #[true,true,true,true,true,true,false,false,false] #[true,true,true,false,true,true,false,true,false] rfl rfl rfl rfl (two_of HT_.out (by kernel_rfl)) (by decide) (by decide) (fun K hK=>?_) (fun K hK=>?_)
        ·skip
         refine goes_ Tryd.func61 (by kernel_rfl) rfl #[.slice Ao53 x8_1.length co53] (by rfl) rfl rfl (by (try simp only [List.map_toArray,List.map_cons,List.map_nil]);first|done|rfl|(simp only [List.length_drop,List.length_take];rfl)) ?_
         with_reducible refine (spec_PathClean.calls k1 _ _ x8_1 t272 _ ?side1 ?side2 A27.out).mono ?_
         (case side1=>repeat (first|exact (Kd.R_reads' HO_8.out).2.2|(with_reducible refine bC ?_)))
         (case side2=>exact (Kd.R_reads' HO_8.out).2.1)
         rintro e w55 ⟨v273,rfl,ho0,hb⟩
         refine ⟨_,rfl,?_⟩
         have n0_:=Am (Kd.R_elder' (bR HO_8.out) (Kd.R_base ho0) hb)
         have n1_:=Am (Kd.R_elder' (bR HO_9.out) (Kd.R_base ho0) hb)
         have n2_:=Am (Kd.R_lower (Kd.R_new' (Kd.R_new' ho0 (Kd.R_lt (bR HO_8.out))) (Kd.R_lt (bR HO_9.out))) (bU (by repeat (first|(with_reducible first|exact HB.out|apply bA|apply bN|apply bD|refine bS ?_ GE250.out|refine bS ?_ GE251.out)|exact HB.out))))
         have n3_:=Am (blk_below (bB BK250.out) hb)
         have n4_:=Am (blk_below (bB BK251.out) hb)
         have n5_:=Am (bT (by repeat (first|(with_reducible first|exact HB.out|apply bA|apply bN|apply bD|refine bS ?_ GE250.out|refine bS ?_ GE251.out)|exact HB.out)) hb)
         clear HO_8
         clear HO_9
         clear BK250
         clear BK251
         clear HB
         have HO_8:=n0_
         have HO_9:=n1_
         have HO274:=n2_
         have BK250:=n3_
         have BK251:=n4_
         have HB:=n5_
         clear n0_ n1_ n2_ n3_ n4_ n5_
         (try clear hb)
         (try clear hb2)
         (try clear hk)
         (try clear hi)
         (try clear ho0)
         obtain ⟨Ao56,co56,eo56⟩:=Kd.R_slice HO274.out
         (first|subst eo56|(injection eo56 with f1_ f2_ f3_;have f4_:=f1_.symm;have f5_:=f3_.symm;clear f1_ f2_ f3_;subst f4_;subst f5_))
         refine hK.out _ _ ⟨bM BK250.out 0 rfl,bM BK250.out 1 rfl,bM BK250.out 2 rfl,bM BK250.out 3 rfl⟩ (fun hHeld=>?_)
         clear hK K
         refine norm_ (a':=?_) ?_ ?_
         rotate_left
         ·show Act.put _ (some 57) _ = _
          simp only [Act.put,List.setIfInBounds_toArray,List.set_cons_zero,List.set_cons_succ,i64_w,i32_w]
          rfl
         refine pure_ (i:=6) (N:=some 60) (v:=?_) (a':=?_) #[true,true,true,true,true,true,true,false,false] rfl rfl (any_of HT_.out (by kernel_rfl)) (fun _ _ _ h=>h) (Or.inl ⟨by rfl,?_⟩) ?_ ?_
         rotate_left
         ·intro w'
          go_simp
          with_reducible rfl
         rotate_left
         ·simp only [Act.put,List.setIfInBounds_toArray,List.set_cons_zero,List.set_cons_succ,i64_w,i32_w]
          rfl
         refine one_ (i:=7) (N:=some 15) #[true,true,true,true,true,true,true,true,false] rfl rfl (one_of HT_.out (by kernel_rfl)) (by decide) (fun K hK=>?_)
         refine box_step ?hg (N:=15) ?hd (cs:=#[.string (⟨#[]⟩:ByteArray), .slice none 0 0, .bool false, .string (⟨#[]⟩:ByteArray)]) (t:=25) ?hr ?_;(case hd=>rfl);(case hg=>rfl);(case hr=>(go_simp <;> rfl))
         intro gb275 hg w57 hbox hb
         have n0_:=Am (Kd.R_below (bR HO_8.out) hb)
         have n1_:=Am (Kd.R_below (bR HO_9.out) hb)
         have n2_:=Am (Kd.R_below (bR HO274.out) hb)
         have n3_:=Am (blk_below (bB BK250.out) hb)
         have n4_:=Am (blk_below (bB BK251.out) hb)
         have n5_:=Am (bT (by repeat (first|(with_reducible first|exact HB.out|apply bA|apply bN|apply bD|refine bS ?_ GE250.out|refine bS ?_ GE251.out)|exact HB.out)) hb)
         have n6_:=Am (hbox)
         have n7_:=Am ((by rw [hg];exact (bU (by repeat (first|(with_reducible first|exact HB.out|apply bA|apply bN|apply bD|refine bS ?_ GE250.out|refine bS ?_ GE251.out)|exact HB.out))):w.heap.size ≤ gb275))
         have n8_:=Am ((by rw [hg];exact (bU (by repeat (first|(with_reducible first|exact HB.out|apply bA|apply bN|apply bD|refine bS ?_ GE250.out|refine bS ?_ GE251.out)|exact HB.out))):w.heap.size ≤ gb275))
         have n9_:=Am ((by rw [hg];exact Nat.ne_of_lt (blk_lt (bB BK250.out)):gb250 ≠ gb275))
         have n10_:=Am ((by rw [hg];exact Nat.ne_of_gt (blk_lt (bB BK250.out)):gb275 ≠ gb250))
         have n11_:=Am ((by rw [hg];exact Nat.ne_of_lt (blk_lt (bB BK251.out)):gb251 ≠ gb275))
         have n12_:=Am ((by rw [hg];exact Nat.ne_of_gt (blk_lt (bB BK251.out)):gb275 ≠ gb251))
         clear HO_8
         clear HO_9
         clear HO274
         clear BK250
         clear BK251
         clear HB
         have HO_8:=n0_
         have HO_9:=n1_
         have HO274:=n2_
         have BK250:=n3_
         have BK251:=n4_
         have HB:=n5_
         have BK275:=n6_
         have GW275:=n7_
         have GE275:=n8_
         have NB250_275:=n9_
         have NB275_250:=n10_
         have NB251_275:=n11_
         have NB275_251:=n12_
         clear n0_ n1_ n2_ n3_ n4_ n5_ n6_ n7_ n8_ n9_ n10_ n11_ n12_
         clear hb hbox hg
         refine hK.out _ _ ⟨bM BK250.out 0 rfl,bM BK250.out 1 rfl,bM BK250.out 2 rfl,bM BK250.out 3 rfl⟩ (fun hHeld=>?_)
         clear hK K
         refine norm_ (a':=?_) ?_ ?_
         rotate_left
         ·show Act.put _ (some 15) _ = _
          simp only [Act.put,List.setIfInBounds_toArray,List.set_cons_zero,List.set_cons_succ,i64_w,i32_w]
          rfl
         exact norm_ (by simp only [putAll,Act.put,List.setIfInBounds_toArray,List.set_cons_zero,List.set_cons_succ]) (hCont (.slice Ao56 t272.length co56,gb275) _ ⟨hHeld,(by (with_reducible repeat (first|apply rA|apply rN|apply rD));exact Kd.R_mono HO274.out (fun _ hk=>⟨hk.1.2,hk.2⟩)),(by (with_reducible repeat (first|apply rA|apply rN|apply rD));exact Kd.R_mono HO_8.out (fun _ hk=>⟨hk.2,hk.1⟩)),(by (with_reducible repeat (first|apply rA|apply rN|apply rD));exact Kd.R_mono HO_9.out (fun _ hk=>⟨hk.2,hk.1⟩)),(bB BK250.out),(bB BK251.out),(bB BK275.out),GW275.out,GE275.out,NB250_275.out,NB275_250.out,NB251_275.out,NB275_251.out,(by repeat (first|(with_reducible first|exact HB.out|apply bA|apply bN|apply bD|refine bS ?_ GE250.out|refine bS ?_ GE251.out|refine bS ?_ GE275.out)|exact HB.out))⟩)
        ·skip
         refine box_step ?hg (N:=15) ?hd (cs:=#[.string (⟨#[]⟩:ByteArray), .slice none 0 0, .bool false, .string (⟨#[]⟩:ByteArray)]) (t:=25) ?hr ?_;(case hd=>rfl);(case hg=>rfl);(case hr=>(go_simp <;> rfl))
         intro gb275 hg w55 hbox hb
         have n0_:=Am (Kd.R_below (bR HO_8.out) hb)
         have n1_:=Am (Kd.R_below (bR HO_9.out) hb)
         have n2_:=Am (blk_below (bB BK250.out) hb)
         have n3_:=Am (blk_below (bB BK251.out) hb)
         have n4_:=Am (bT (by repeat (first|(with_reducible first|exact HB.out|apply bA|apply bN|apply bD|refine bS ?_ GE250.out|refine bS ?_ GE251.out)|exact HB.out)) hb)
         have n5_:=Am (hbox)
         have n6_:=Am ((by rw [hg];exact (bU (by repeat (first|(with_reducible first|exact HB.out|apply bA|apply bN|apply bD|refine bS ?_ GE250.out|refine bS ?_ GE251.out)|exact HB.out))):w.heap.size ≤ gb275))
         have n7_:=Am ((by rw [hg];exact (bU (by repeat (first|(with_reducible first|exact HB.out|apply bA|apply bN|apply bD|refine bS ?_ GE250.out|refine bS ?_ GE251.out)|exact HB.out))):w.heap.size ≤ gb275))
         have n8_:=Am ((by rw [hg];exact Nat.ne_of_lt (blk_lt (bB BK250.out)):gb250 ≠ gb275))
         have n9_:=Am ((by rw [hg];exact Nat.ne_of_gt (blk_lt (bB BK250.out)):gb275 ≠ gb250))
         have n10_:=Am ((by rw [hg];exact Nat.ne_of_lt (blk_lt (bB BK251.out)):gb251 ≠ gb275))
         have n11_:=Am ((by rw [hg];exact Nat.ne_of_gt (blk_lt (bB BK251.out)):gb275 ≠ gb251))
         clear HO_8
         clear HO_9
         clear BK250
         clear BK251
         clear HB
         have HO_8:=n0_
         have HO_9:=n1_
         have BK250:=n2_
         have BK251:=n3_
         have HB:=n4_
         have BK275:=n5_
         have GW275:=n6_
         have GE275:=n7_
         have NB250_275:=n8_
         have NB275_250:=n9_
         have NB251_275:=n10_
         have NB275_251:=n11_
         clear n0_ n1_ n2_ n3_ n4_ n5_ n6_ n7_ n8_ n9_ n10_ n11_
         clear hb hbox hg
         refine hK.out _ _ ⟨bM BK250.out 0 rfl,bM BK250.out 1 rfl,bM BK250.out 2 rfl,bM BK250.out 3 rfl⟩ (fun hHeld=>?_)
         clear hK K
         refine norm_ (a':=?_) ?_ ?_
         rotate_left
         ·show Act.put _ (some 15) _ = _
          simp only [Act.put,List.setIfInBounds_toArray,List.set_cons_zero,List.set_cons_succ,i64_w,i32_w]
          rfl
         refine one_ (i:=3) (N:=some 57) #[true,true,true,true,true,true,false,true,false] rfl rfl (one_of HT_.out (by kernel_rfl)) (by decide) (fun K hK=>?_)
         refine goes_ Tryd.func61 (by kernel_rfl) rfl #[.slice Ao53 x8_1.length co53] (by rfl) rfl rfl (by (try simp only [List.map_toArray,List.map_cons,List.map_nil]);first|done|rfl|(simp only [List.length_drop,List.length_take];rfl)) ?_
         with_reducible refine (spec_PathClean.calls k1 _ _ x8_1 t272 _ ?side1 ?side2 A27.out).mono ?_
         (case side1=>repeat (first|exact (Kd.R_reads' HO_8.out).2.2|(with_reducible refine bC ?_)))
         (case side2=>exact (Kd.R_reads' HO_8.out).2.1)
         rintro e w56 ⟨v273,rfl,ho0,hb⟩
         refine ⟨_,rfl,?_⟩
         have n0_:=Am (Kd.R_elder' (bR HO_8.out) (Kd.R_base ho0) hb)
         have n1_:=Am (Kd.R_elder' (bR HO_9.out) (Kd.R_base ho0) hb)
         have n2_:=Am (Kd.R_lower (Kd.R_new' (Kd.R_new' ho0 (Kd.R_lt (bR HO_8.out))) (Kd.R_lt (bR HO_9.out))) (bU (by repeat (first|(with_reducible first|exact HB.out|apply bA|apply bN|apply bD|refine bS ?_ GE250.out|refine bS ?_ GE251.out|refine bS ?_ GE275.out)|exact HB.out))))
         have n3_:=Am (blk_below (bB BK250.out) hb)
         have n4_:=Am (blk_below (bB BK251.out) hb)
         have n5_:=Am (blk_below (bB BK275.out) hb)
         have n6_:=Am (bT (by repeat (first|(with_reducible first|exact HB.out|apply bA|apply bN|apply bD|refine bS ?_ GE250.out|refine bS ?_ GE251.out|refine bS ?_ GE275.out)|exact HB.out)) hb)
         clear HO_8
         clear HO_9
         clear BK250
         clear BK251
         clear BK275
         clear HB
         have HO_8:=n0_
         have HO_9:=n1_
         have HO274:=n2_
         have BK250:=n3_
         have BK251:=n4_
         have BK275:=n5_
         have HB:=n6_
         clear n0_ n1_ n2_ n3_ n4_ n5_ n6_
         (try clear hb)
         (try clear hb2)
         (try clear hk)
         (try clear hi)
         (try clear ho0)
         obtain ⟨Ao57,co57,eo57⟩:=Kd.R_slice HO274.out
         (first|subst eo57|(injection eo57 with f1_ f2_ f3_;have f4_:=f1_.symm;have f5_:=f3_.symm;clear f1_ f2_ f3_;subst f4_;subst f5_))
         refine hK.out _ _ ⟨bM BK250.out 0 rfl,bM BK250.out 1 rfl,bM BK250.out 2 rfl,bM BK250.out 3 rfl⟩ (fun hHeld=>?_)
         clear hK K
         refine norm_ (a':=?_) ?_ ?_
         rotate_left
         ·show Act.put _ (some 57) _ = _
          simp only [Act.put,List.setIfInBounds_toArray,List.set_cons_zero,List.set_cons_succ,i64_w,i32_w]
          rfl
         refine pure_ (i:=6) (N:=some 60) (v:=?_) (a':=?_) #[true,true,true,true,true,true,true,true,false] rfl rfl (any_of HT_.out (by kernel_rfl)) (fun _ _ _ h=>h) (Or.inl ⟨by rfl,?_⟩) ?_ ?_
         rotate_left
         ·intro w'
          go_simp
          with_reducible rfl
         rotate_left
         ·simp only [Act.put,List.setIfInBounds_toArray,List.set_cons_zero,List.set_cons_succ,i64_w,i32_w]
          rfl
         exact norm_ (by simp only [putAll,Act.put,List.setIfInBounds_toArray,List.set_cons_zero,List.set_cons_succ]) (hCont (.slice Ao57 t272.length co57,gb275) _ ⟨hHeld,(by (with_reducible repeat (first|apply rA|apply rN|apply rD));exact Kd.R_mono HO274.out (fun _ hk=>⟨hk.1.2,hk.2⟩)),(by (with_reducible repeat (first|apply rA|apply rN|apply rD));exact Kd.R_mono HO_8.out (fun _ hk=>⟨hk.2,hk.1⟩)),(by (with_reducible repeat (first|apply rA|apply rN|apply rD));exact Kd.R_mono HO_9.out (fun _ hk=>⟨hk.2,hk.1⟩)),(bB BK250.out),(bB BK251.out),(bB BK275.out),GW275.out,GE275.out,NB250_275.out,NB275_250.out,NB251_275.out,NB275_251.out,(by repeat (first|(with_reducible first|exact HB.out|apply bA|apply bN|apply bD|refine bS ?_ GE250.out|refine bS ?_ GE251.out|refine bS ?_ GE275.out)|exact HB.out))⟩)
       rintro ⟨v273,gb275⟩ w58 ⟨hS_,h0_,h1_,h2_,h3_,h4_,h5_,h6_,h7_,h8_,h9_,h10_,h11_,h12_⟩
       have n0_:Aside0 (Kd.R Kd.string 9 w58 w.heap.size (fun k_=>some k_ ≠ (.slice Ao53 x8_1.length co53:Value).ownBlock ∧ some k_ ≠ (.slice Ao51 t261.length co51:Value).ownBlock) v273 t272):=⟨h0_⟩
       have n1_:Aside0 (Kd.R Kd.string 9 w58 w.heap.size (fun k_=>some k_ ≠ (v273:Value).ownBlock ∧ some k_ ≠ (.slice Ao51 t261.length co51:Value).ownBlock) (.slice Ao53 x8_1.length co53) x8_1):=⟨h1_⟩
       have n2_:Aside0 (Kd.R Kd.string 9 w58 w.heap.size (fun k_=>some k_ ≠ (v273:Value).ownBlock ∧ some k_ ≠ (.slice Ao53 x8_1.length co53:Value).ownBlock) (.slice Ao51 t261.length co51) t261):=⟨h2_⟩
       have n3_:Aside0 (w58.heap[gb250]? = some (.cells #[.string a0_0, .slice A0_1 l0_1.length c0_1, .bool a0_2, .string a0_3] 25 (0,0))):=⟨h3_⟩
       have n4_:Aside0 (w58.heap[gb251]? = some (.cells #[.string x252000_1, .slice none 0 0, .bool x252002_1, .string x252003_1] 25 (0,0))):=⟨h4_⟩
       have n5_:Aside0 (w58.heap[gb275]? = some (.cells #[.string (⟨#[]⟩:ByteArray), .slice none 0 0, .bool false, .string (⟨#[]⟩:ByteArray)] 25 (0,0))):=⟨h5_⟩
       have n6_:Aside0 (w.heap.size ≤ gb275):=⟨h6_⟩
       have n7_:Aside0 (w.heap.size ≤ gb275):=⟨h7_⟩
       have n8_:Aside0 (gb250 ≠ gb275):=⟨h8_⟩
       have n9_:Aside0 (gb275 ≠ gb250):=⟨h9_⟩
       have n10_:Aside0 (gb251 ≠ gb275):=⟨h10_⟩
       have n11_:Aside0 (gb275 ≠ gb251):=⟨h11_⟩
       have n12_:Aside0 (Below w.heap.size w w58):=⟨h12_⟩
       clear HO_8
       clear HO_9
       clear BK250
       clear BK251
       clear HB
       clear h0_ h1_ h2_ h3_ h4_ h5_ h6_ h7_ h8_ h9_ h10_ h11_ h12_
       have HO274:=n0_
       have HO_8:=n1_
       have HO_9:=n2_
       have BK250:=n3_
       have BK251:=n4_
       have BK275:=n5_
       have GW275:=n6_
       have GE275:=n7_
       have NB250_275:=n8_
       have NB275_250:=n9_
       have NB251_275:=n10_
       have NB275_251:=n11_
       have HB:=n12_
       clear n0_ n1_ n2_ n3_ n4_ n5_ n6_ n7_ n8_ n9_ n10_ n11_ n12_
       have hHeld:w58.cell? ⟨gb250,0,none⟩ = some (.string a0_0) ∧ w58.cell? ⟨gb250,1,none⟩ = some (.slice A0_1 l0_1.length c0_1) ∧ w58.cell? ⟨gb250,2,none⟩ = some (.bool a0_2) ∧ w58.cell? ⟨gb250,3,none⟩ = some (.string a0_3):=hS_
       obtain ⟨Ao59,co59,eo59⟩:=Kd.R_slice HO274.out
       (first|subst eo59|(injection eo59 with f1_ f2_ f3_;have f4_:=f1_.symm;have f5_:=f3_.symm;clear f1_ f2_ f3_;subst f4_;subst f5_))
       refine norm_ (a':=?_) ?_ ?_
       rotate_left
       ·simp only [putAll,Act.put,List.setIfInBounds_toArray,List.set_cons_zero,List.set_cons_succ]
        rfl
       refine one_ (i:=8) (N:=none) #[true,true,true,true,true,true,true,true,true] rfl rfl (one_of HT_.out (by kernel_rfl)) (by decide) (fun K hK=>?_)
       have hs60:w58.cell? ⟨gb275,0,none⟩ = some (.string (⟨#[]⟩:ByteArray)):=bM BK275.out 0 rfl
       have hfs60:=bZ BK275.out 0
       have hns60_0:=NB250_275.out
       have hns60_1:=NB251_275.out
       have hms60_0:=NB275_250.out
       have hms60_1:=NB275_251.out
       have hs61:w58.cell? ⟨gb275,1,none⟩ = some (.slice none 0 0):=bM BK275.out 1 rfl
       have hfs61:=bZ BK275.out 1
       have hns61_0:=NB250_275.out
       have hns61_1:=NB251_275.out
       have hms61_0:=NB275_250.out
       have hms61_1:=NB275_251.out
       have hs62:w58.cell? ⟨gb275,2,none⟩ = some (.bool false):=bM BK275.out 2 rfl
       have hfs62:=bZ BK275.out 2
       have hns62_0:=NB250_275.out
       have hns62_1:=NB251_275.out
       have hms62_0:=NB275_250.out
       have hms62_1:=NB275_251.out
       have hs63:w58.cell? ⟨gb275,3,none⟩ = some (.string (⟨#[]⟩:ByteArray)):=bM BK275.out 3 rfl
       have hfs63:=bZ BK275.out 3
       have hns63_0:=NB250_275.out
       have hns63_1:=NB251_275.out
       have hms63_0:=NB275_250.out
       have hms63_1:=NB275_251.out
       refine skip_ (w1:=?_) (by rfl) rfl ?_ ?_
       rotate_left
       ·go_simp
        rfl
       refine hK.out _ _ ⟨((cell_far (p:=⟨gb275,_,none⟩) NB250_275.out _).trans (((cell_far (p:=⟨gb275,_,none⟩) NB250_275.out _).trans (((cell_far (p:=⟨gb275,_,none⟩) NB250_275.out _).trans (((cell_far (p:=⟨gb275,_,none⟩) NB250_275.out _).trans (hHeld.1)))))))),((cell_far (p:=⟨gb275,_,none⟩) NB250_275.out _).trans (((cell_far (p:=⟨gb275,_,none⟩) NB250_275.out _).trans (((cell_far (p:=⟨gb275,_,none⟩) NB250_275.out _).trans (((cell_far (p:=⟨gb275,_,none⟩) NB250_275.out _).trans (hHeld.2.1)))))))),((cell_far (p:=⟨gb275,_,none⟩) NB250_275.out _).trans (((cell_far (p:=⟨gb275,_,none⟩) NB250_275.out _).trans (((cell_far (p:=⟨gb275,_,none⟩) NB250_275.out _).trans (((cell_far (p:=⟨gb275,_,none⟩) NB250_275.out _).trans (hHeld.2.2.1)))))))),((cell_far (p:=⟨gb275,_,none⟩) NB250_275.out _).trans (((cell_far (p:=⟨gb275,_,none⟩) NB250_275.out _).trans (((cell_far (p:=⟨gb275,_,none⟩) NB250_275.out _).trans (((cell_far (p:=⟨gb275,_,none⟩) NB250_275.out _).trans (hHeld.2.2.2))))))))⟩ (fun hHeld=>?_)
       clear hK K
       refine done_ (done_of HT_.out (by kernel_rfl)) ?_
       have hnb64:=NB275_250.out
       have hnc64:=NB250_275.out
       have hnb65:=NB275_251.out
       have hnc65:=NB251_275.out
       have hcz66_0:w58.cell? ⟨gb275,0,none⟩ = some (.string (⟨#[]⟩:ByteArray)):=bM BK275.out 0 rfl
       have hcz66_1:w58.cell? ⟨gb275,1,none⟩ = some (.slice none 0 0):=bM BK275.out 1 rfl
       have hcz66_2:w58.cell? ⟨gb275,2,none⟩ = some (.bool false):=bM BK275.out 2 rfl
       have hcz66_3:w58.cell? ⟨gb275,3,none⟩ = some (.string (⟨#[]⟩:ByteArray)):=bM BK275.out 3 rfl
       have hfz66_0:=bZ BK275.out 0
       have hfz66_1:=bZ BK275.out 1
       have hfz66_2:=bZ BK275.out 2
       have hfz66_3:=bZ BK275.out 3
       try go_wp2_with (first|(go_at_call 15;(with_reducible refine (spec_AddrOk.calls k1 a0_0 _ _ t272 t254 t270 false _ ?side1 ?side2 A29.out).mono ?_);(case side1=>refine (Kd.R_reads' (e:=9) (base:=w.heap.size) (ok:=fun k_=>(some k_ ≠ (.slice Ao53 x8_1.length co53:Value).ownBlock ∧ some k_ ≠ (.slice Ao51 t261.length co51:Value).ownBlock)) (n:=t272.length) (c:=co59) ?_).2.2;exact (by (with_reducible repeat (first|apply rA|apply rN|apply rD));exact (bQ HO274.out BK275.out (by decide) _ _ _ _)));(case side2=>exact (Kd.R_reads' HO274.out).2.1);rintro e w67 ⟨rfl,hb⟩;have n0_:=Am (Kd.R_below (by (with_reducible repeat (first|apply rA|apply rN|apply rD));exact (bQ HO_8.out BK275.out (by decide) _ _ _ _)) hb);have n1_:=Am (Kd.R_below (by (with_reducible repeat (first|apply rA|apply rN|apply rD));exact (bQ HO_9.out BK275.out (by decide) _ _ _ _)) hb);have n2_:=Am (Kd.R_below (by (with_reducible repeat (first|apply rA|apply rN|apply rD));exact (bQ HO274.out BK275.out (by decide) _ _ _ _)) hb);have n3_:=Am (blk_below (g:=gb250) (o:=.cells #[.string a0_0, .slice A0_1 l0_1.length c0_1, .bool a0_2, .string a0_3] 25 (0,0)) (by refine bB ?_;refine bF ?_ NB250_275.out;refine bB ?_;exact BK250.out) hb);have n4_:=Am (blk_below (g:=gb251) (o:=.cells #[.string x252000_1, .slice none 0 0, .bool x252002_1, .string x252003_1] 25 (0,0)) (by refine bB ?_;refine bF ?_ NB251_275.out;refine bB ?_;exact BK251.out) hb);have n5_:=Am (blk_below (g:=gb275) (o:=.cells #[.string a0_0, .slice Ao59 t272.length co59, .bool t254, .string t270] 25 (0,0)) (by refine bB ?_;apply bP;refine bB ?_;exact BK275.out) hb);have n6_:=Am (bT (by repeat (first|(with_reducible first|exact HB.out|apply bA|apply bN|apply bD|refine bS ?_ GE250.out|refine bS ?_ GE251.out|refine bS ?_ GE275.out)|exact HB.out)) hb);clear HO_8 HO_9 HO274 BK250 BK251 BK275 HB;have HO_8:=n0_;have HO_9:=n1_;have HO274:=n2_;have BK250:=n3_;have BK251:=n4_;have BK275:=n5_;have HB:=n6_;clear n0_ n1_ n2_ n3_ n4_ n5_ n6_;(try clear hb);have hnb68:=NB251_250.out;have hnc68:=NB250_251.out;have hcz69_0:w67.cell? ⟨gb251,0,none⟩ = some (.string x252000_1):=bM BK251.out 0 rfl;have hcz69_1:w67.cell? ⟨gb251,1,none⟩ = some (.slice none 0 0):=bM BK251.out 1 rfl;have hcz69_2:w67.cell? ⟨gb251,2,none⟩ = some (.bool x252002_1):=bM BK251.out 2 rfl;have hcz69_3:w67.cell? ⟨gb251,3,none⟩ = some (.string x252003_1):=bM BK251.out 3 rfl;have hfz69_0:=bZ BK251.out 0;have hfz69_1:=bZ BK251.out 1;have hfz69_2:=bZ BK251.out 2;have hfz69_3:=bZ BK251.out 3))
       refine bodyPost_ret (results_ct rfl _ _ gb251 25 #[.string (⟨#[]⟩:ByteArray), .slice none 0 0, .bool false, .string (⟨#[]⟩:ByteArray)] (0,0) _ rfl (by refine bB ?_;apply bP;refine bB ?_;exact BK251.out) Tryd.underlying25 rfl (by kernel_rfl)) rfl ?_
       exact ⟨_,by first|rfl|(simp <;> rfl)|(simp [*] <;> rfl),by first|exact Kd.R_nil _ _ _ _ _|exact Kd.N_nil _ _ _ _ _|exact Kd.V_nil _ _ _ _ _|exact Kd.Q_nil _ _ _ _ _|exact Kd.S_nil _ _ _ _ _,by repeat (first|(with_reducible first|exact HB.out|apply bA|apply bN|apply bD|refine bS ?_ GE250.out|refine bS ?_ GE251.out|refine bS ?_ GE275.out)|exact HB.out)⟩
     ·replace c28:=Bool.eq_false_iff.mpr c28
      subst c28
      have H1:(some ((⟨#[]⟩:ByteArray),([]:List ByteArray),false,(⟨#[]⟩:ByteArray),false)) = some (r1,r2,r3,r4,r5):=by rw [if_neg (show ¬ (false = true) by decide)] at H;exact H
      clear H
      have H:=H1
      clear H1
      simp only [Option.some.injEq,Prod.mk.injEq] at H
      obtain ⟨rfl,rfl,rfl,rfl,rfl⟩:=H
      obtain ⟨Ao70,co70,eo70⟩:=Kd.R_slice HO_9.out
      subst eo70
      try go_wp2_with (first|((with_reducible refine gate_callee (f:=60) rfl ?_);refine goesL_ (some 51) rfl rfl Tryd.func60 (by kernel_rfl) rfl #[.string t253] rfl (aE1 rfl) ?_;(with_reducible refine (spec_EscNorm.calls k1 t253 t270 false _ A26.out).mono ?_);rintro e w71 ⟨rfl,hb⟩;refine ⟨_,rfl,?_⟩;have n0_:=Am (Kd.R_below (bR HO_8.out) hb);have n1_:=Am (Kd.R_below (bR HO_9.out) hb);have n2_:=Am (blk_below (bB BK250.out) hb);have n3_:=Am (blk_below (bB BK251.out) hb);have n4_:=Am (bT (by repeat (first|(with_reducible first|exact HB.out|apply bA|apply bN|apply bD|refine bS ?_ GE250.out|refine bS ?_ GE251.out)|exact HB.out)) hb);clear HO_8 HO_9 BK250 BK251 HB;have HO_8:=n0_;have HO_9:=n1_;have BK250:=n2_;have BK251:=n3_;have HB:=n4_;clear n0_ n1_ n2_ n3_ n4_;(try clear hb);obtain ⟨Ao72,co72,eo72⟩:=Kd.R_slice HO_8.out;subst eo72))
      have n0_:=Am (Kd.R_drew HO_8.out)
      have n1_:=Am (Kd.R_drew HO_9.out)
      have n2_:=Am (blk_drew BK250.out)
      have n3_:=Am (blk_drew BK251.out)
      have n4_:=Am (below_drew1 HB.out)
      clear HO_8
      clear HO_9
      clear BK250
      clear BK251
      clear HB
      have HO_8:=n0_
      have HO_9:=n1_
      have BK250:=n2_
      have BK251:=n3_
      have HB:=n4_
      clear n0_ n1_ n2_ n3_ n4_
      refine start_ (n:=9) (S:=fun w'=>w'.cell? ⟨gb250,0,none⟩ = some (.string a0_0) ∧ w'.cell? ⟨gb250,1,none⟩ = some (.slice A0_1 l0_1.length c0_1) ∧ w'.cell? ⟨gb250,2,none⟩ = some (.bool a0_2) ∧ w'.cell? ⟨gb250,3,none⟩ = some (.string a0_3)) (ds:=[]) #[false,false,false,false,false,false,false,false,false] (by kernel_rfl) rfl rfl ⟨bM BK250.out 0 rfl,bM BK250.out 1 rfl,bM BK250.out 2 rfl,bM BK250.out 3 rfl⟩ (fun hHeld=>?_);refine with_tabW spec_l1Way.tab12 spec_l1Way.bits12 (fun HT_ HW_=>?_)
      generalize w71.drew = w73 at HO_8 HO_9 BK250 BK251 HB hHeld ⊢
      refine pure_ (i:=0) (N:=some 54) (v:=?_) (a':=?_) #[true,false,false,false,false,false,false,false,false] rfl rfl (any_of HT_.out (by kernel_rfl)) (fun _ _ _ h=>h) (Or.inl ⟨by rfl,?_⟩) ?_ ?_
      rotate_left
      ·intro w'
       go_simp
       with_reducible rfl
      rotate_left
      ·simp only [Act.put,List.setIfInBounds_toArray,List.set_cons_zero,List.set_cons_succ,i64_w,i32_w]
       rfl
      refine pure_ (i:=2) (N:=some 56) (v:=?_) (a':=?_) #[true,false,true,false,false,false,false,false,false] rfl rfl (any_of HT_.out (by kernel_rfl)) (fun _ _ _ h=>h) (Or.inl ⟨by rfl,?_⟩) ?_ ?_
      rotate_left
      ·intro w'
       go_simp
       with_reducible rfl
      rotate_left
      ·simp only [Act.put,List.setIfInBounds_toArray,List.set_cons_zero,List.set_cons_succ,i64_w,i32_w]
       rfl
      refine pure_ (i:=4) (N:=some 58) (v:=?_) (a':=?_) #[true,false,true,false,true,false,false,false,false] rfl rfl (any_of HT_.out (by kernel_rfl)) (fun _ _ _ h=>h) (Or.inl ⟨by rfl,?_⟩) ?_ ?_
      rotate_left
      ·intro w'
       go_simp
       with_reducible rfl
      rotate_left
      ·simp only [Act.put,List.setIfInBounds_toArray,List.set_cons_zero,List.set_cons_succ,i64_w,i32_w]
       rfl
      refine pure_ (i:=5) (N:=some 59) (v:=?_) (a':=?_) #[true,false,true,false,true,true,false,false,false] rfl rfl (any_of HT_.out (by kernel_rfl)) (fun _ _ _ h=>h) (Or.inl ⟨by rfl,?_⟩) ?_ ?_
      rotate_left
      ·intro w'
       go_simp
       with_reducible rfl
      rotate_left
      ·simp only [Act.put,List.setIfInBounds_toArray,List.set_cons_zero,List.set_cons_succ,i64_w,i32_w]
       rfl
      refine take_ (i:=1) (N:=some 55) (v:=?_) (a':=?_) #[true,true,true,false,true,true,false,false,false] rfl rfl (take_ofW HT_.out HW_.out (by kernel_rfl)) (fun _ _ _ h=>h) (Or.inl ⟨by rfl,?_⟩) hHeld ?_ ?_
      rotate_left
      ·rintro w' ⟨s0,s1,s2,s3⟩
       go_simp
       with_reducible rfl
      rotate_left
      ·simp only [Act.put,List.setIfInBounds_toArray,List.set_cons_zero,List.set_cons_succ,i64_w,i32_w]
       rfl
      refine join_ (σ:=Value × Nat) 1 #[true,true,true,true,true,true,true,true,false] (fun s_=>[(57,s_.1),(15, .pointer (some ⟨s_.2,0,none⟩)),(60, .agg #[.string a0_0,s_.1, .bool t254, .string t270])]) (fun s_ w'=>(w'.cell? ⟨gb250,0,none⟩ = some (.string a0_0) ∧ w'.cell? ⟨gb250,1,none⟩ = some (.slice A0_1 l0_1.length c0_1) ∧ w'.cell? ⟨gb250,2,none⟩ = some (.bool a0_2) ∧ w'.cell? ⟨gb250,3,none⟩ = some (.string a0_3)) ∧ (Kd.R Kd.string 9 w' w.heap.size (fun k_=>some k_ ≠ (.slice Ao72 x8_1.length co72:Value).ownBlock ∧ some k_ ≠ (.slice Ao70 t261.length co70:Value).ownBlock) s_.1 t272) ∧ (Kd.R Kd.string 9 w' w.heap.size (fun k_=>some k_ ≠ (s_.1:Value).ownBlock ∧ some k_ ≠ (.slice Ao70 t261.length co70:Value).ownBlock) (.slice Ao72 x8_1.length co72) x8_1) ∧ (Kd.R Kd.string 9 w' w.heap.size (fun k_=>some k_ ≠ (s_.1:Value).ownBlock ∧ some k_ ≠ (.slice Ao72 x8_1.length co72:Value).ownBlock) (.slice Ao70 t261.length co70) t261) ∧ (w'.heap[gb250]? = some (.cells #[.string a0_0, .slice A0_1 l0_1.length c0_1, .bool a0_2, .string a0_3] 25 (0,0))) ∧ (w'.heap[gb251]? = some (.cells #[.string x252000_1, .slice none 0 0, .bool x252002_1, .string x252003_1] 25 (0,0))) ∧ (w'.heap[s_.2]? = some (.cells #[.string (⟨#[]⟩:ByteArray), .slice none 0 0, .bool false, .string (⟨#[]⟩:ByteArray)] 25 (0,0))) ∧ (w.heap.size ≤ s_.2) ∧ (w.heap.size ≤ s_.2) ∧ (gb250 ≠ s_.2) ∧ (s_.2 ≠ gb250) ∧ (gb251 ≠ s_.2) ∧ (s_.2 ≠ gb251) ∧ (Below w.heap.size w w')) ?_ ?_
      rotate_left
      ·intro hCont
       refine two_ (i:=3) (j:=7) (Ni:=some 57) (Nj:=some 15) #[true,true,true,true,true,true,false,false,false] #[true,true,true,false,true,true,false,true,false] rfl rfl rfl rfl (two_of HT_.out (by kernel_rfl)) (by decide) (by decide) (fun K hK=>?_) (fun K hK=>?_)
       ·skip
        refine goes_ Tryd.func61 (by kernel_rfl) rfl #[.slice Ao72 x8_1.length co72] (by rfl) rfl rfl (by (try simp only [List.map_toArray,List.map_cons,List.map_nil]);first|done|rfl|(simp only [List.length_drop,List.length_take];rfl)) ?_
        with_reducible refine (spec_PathClean.calls k1 _ _ x8_1 t272 _ ?side1 ?side2 A27.out).mono ?_
        (case side1=>repeat (first|exact (Kd.R_reads' HO_8.out).2.2|(with_reducible refine bC ?_)))
        (case side2=>exact (Kd.R_reads' HO_8.out).2.1)
        rintro e w74 ⟨v273,rfl,ho0,hb⟩
        refine ⟨_,rfl,?_⟩
        have n0_:=Am (Kd.R_elder' (bR HO_8.out) (Kd.R_base ho0) hb)
        have n1_:=Am (Kd.R_elder' (bR HO_9.out) (Kd.R_base ho0) hb)
        have n2_:=Am (Kd.R_lower (Kd.R_new' (Kd.R_new' ho0 (Kd.R_lt (bR HO_8.out))) (Kd.R_lt (bR HO_9.out))) (bU (by repeat (first|(with_reducible first|exact HB.out|apply bA|apply bN|apply bD|refine bS ?_ GE250.out|refine bS ?_ GE251.out)|exact HB.out))))
        have n3_:=Am (blk_below (bB BK250.out) hb)
        have n4_:=Am (blk_below (bB BK251.out) hb)
        have n5_:=Am (bT (by repeat (first|(with_reducible first|exact HB.out|apply bA|apply bN|apply bD|refine bS ?_ GE250.out|refine bS ?_ GE251.out)|exact HB.out)) hb)
        clear HO_8
        clear HO_9
        clear BK250
        clear BK251
        clear HB
        have HO_8:=n0_
        have HO_9:=n1_
        have HO274:=n2_
        have BK250:=n3_
        have BK251:=n4_
        have HB:=n5_
        clear n0_ n1_ n2_ n3_ n4_ n5_
        (try clear hb)
        (try clear hb2)
        (try clear hk)
        (try clear hi)
        (try clear ho0)
        obtain ⟨Ao75,co75,eo75⟩:=Kd.R_slice HO274.out
        (first|subst eo75|(injection eo75 with f1_ f2_ f3_;have f4_:=f1_.symm;have f5_:=f3_.symm;clear f1_ f2_ f3_;subst f4_;subst f5_))
        refine hK.out _ _ ⟨bM BK250.out 0 rfl,bM BK250.out 1 rfl,bM BK250.out 2 rfl,bM BK250.out 3 rfl⟩ (fun hHeld=>?_)
        clear hK K
        refine norm_ (a':=?_) ?_ ?_
        rotate_left
        ·show Act.put _ (some 57) _ = _
         simp only [Act.put,List.setIfInBounds_toArray,List.set_cons_zero,List.set_cons_succ,i64_w,i32_w]
         rfl
        refine pure_ (i:=6) (N:=some 60) (v:=?_) (a':=?_) #[true,true,true,true,true,true,true,false,false] rfl rfl (any_of HT_.out (by kernel_rfl)) (fun _ _ _ h=>h) (Or.inl ⟨by rfl,?_⟩) ?_ ?_
        rotate_left
        ·intro w'
         go_simp
         with_reducible rfl
        rotate_left
        ·simp only [Act.put,List.setIfInBounds_toArray,List.set_cons_zero,List.set_cons_succ,i64_w,i32_w]
         rfl
        refine one_ (i:=7) (N:=some 15) #[true,true,true,true,true,true,true,true,false] rfl rfl (one_of HT_.out (by kernel_rfl)) (by decide) (fun K hK=>?_)
        refine box_step ?hg (N:=15) ?hd (cs:=#[.string (⟨#[]⟩:ByteArray), .slice none 0 0, .bool false, .string (⟨#[]⟩:ByteArray)]) (t:=25) ?hr ?_;(case hd=>rfl);(case hg=>rfl);(case hr=>(go_simp <;> rfl))
        intro gb275 hg w76 hbox hb
        have n0_:=Am (Kd.R_below (bR HO_8.out) hb)
        have n1_:=Am (Kd.R_below (bR HO_9.out) hb)
        have n2_:=Am (Kd.R_below (bR HO274.out) hb)
        have n3_:=Am (blk_below (bB BK250.out) hb)
        have n4_:=Am (blk_below (bB BK251.out) hb)
        have n5_:=Am (bT (by repeat (first|(with_reducible first|exact HB.out|apply bA|apply bN|apply bD|refine bS ?_ GE250.out|refine bS ?_ GE251.out)|exact HB.out)) hb)
        have n6_:=Am (hbox)
        have n7_:=Am ((by rw [hg];exact (bU (by repeat (first|(with_reducible first|exact HB.out|apply bA|apply bN|apply bD|refine bS ?_ GE250.out|refine bS ?_ GE251.out)|exact HB.out))):w.heap.size ≤ gb275))
        have n8_:=Am ((by rw [hg];exact (bU (by repeat (first|(with_reducible first|exact HB.out|apply bA|apply bN|apply bD|refine bS ?_ GE250.out|refine bS ?_ GE251.out)|exact HB.out))):w.heap.size ≤ gb275))
        have n9_:=Am ((by rw [hg];exact Nat.ne_of_lt (blk_lt (bB BK250.out)):gb250 ≠ gb275))
        have n10_:=Am ((by rw [hg];exact Nat.ne_of_gt (blk_lt (bB BK250.out)):gb275 ≠ gb250))
        have n11_:=Am ((by rw [hg];exact Nat.ne_of_lt (blk_lt (bB BK251.out)):gb251 ≠ gb275))
        have n12_:=Am ((by rw [hg];exact Nat.ne_of_gt (blk_lt (bB BK251.out)):gb275 ≠ gb251))
        clear HO_8
        clear HO_9
        clear HO274
        clear BK250
        clear BK251
        clear HB
        have HO_8:=n0_
        have HO_9:=n1_
        have HO274:=n2_
        have BK250:=n3_
        have BK251:=n4_
        have HB:=n5_
        have BK275:=n6_
        have GW275:=n7_
        have GE275:=n8_
        have NB250_275:=n9_
        have NB275_250:=n10_
        have NB251_275:=n11_
        have NB275_251:=n12_
        clear n0_ n1_ n2_ n3_ n4_ n5_ n6_ n7_ n8_ n9_ n10_ n11_ n12_
        clear hb hbox hg
        refine hK.out _ _ ⟨bM BK250.out 0 rfl,bM BK250.out 1 rfl,bM BK250.out 2 rfl,bM BK250.out 3 rfl⟩ (fun hHeld=>?_)
        clear hK K
        refine norm_ (a':=?_) ?_ ?_
        rotate_left
        ·show Act.put _ (some 15) _ = _
         simp only [Act.put,List.setIfInBounds_toArray,List.set_cons_zero,List.set_cons_succ,i64_w,i32_w]
         rfl
        exact norm_ (by simp only [putAll,Act.put,List.setIfInBounds_toArray,List.set_cons_zero,List.set_cons_succ]) (hCont (.slice Ao75 t272.length co75,gb275) _ ⟨hHeld,(by (with_reducible repeat (first|apply rA|apply rN|apply rD));exact Kd.R_mono HO274.out (fun _ hk=>⟨hk.1.2,hk.2⟩)),(by (with_reducible repeat (first|apply rA|apply rN|apply rD));exact Kd.R_mono HO_8.out (fun _ hk=>⟨hk.2,hk.1⟩)),(by (with_reducible repeat (first|apply rA|apply rN|apply rD));exact Kd.R_mono HO_9.out (fun _ hk=>⟨hk.2,hk.1⟩)),(bB BK250.out),(bB BK251.out),(bB BK275.out),GW275.out,GE275.out,NB250_275.out,NB275_250.out,NB251_275.out,NB275_251.out,(by repeat (first|(with_reducible first|exact HB.out|apply bA|apply bN|apply bD|refine bS ?_ GE250.out|refine bS ?_ GE251.out|refine bS ?_ GE275.out)|exact HB.out))⟩)
       ·skip
        refine box_step ?hg (N:=15) ?hd (cs:=#[.string (⟨#[]⟩:ByteArray), .slice none 0 0, .bool false, .string (⟨#[]⟩:ByteArray)]) (t:=25) ?hr ?_;(case hd=>rfl);(case hg=>rfl);(case hr=>(go_simp <;> rfl))
        intro gb275 hg w74 hbox hb
        have n0_:=Am (Kd.R_below (bR HO_8.out) hb)
        have n1_:=Am (Kd.R_below (bR HO_9.out) hb)
        have n2_:=Am (blk_below (bB BK250.out) hb)
        have n3_:=Am (blk_below (bB BK251.out) hb)
        have n4_:=Am (bT (by repeat (first|(with_reducible first|exact HB.out|apply bA|apply bN|apply bD|refine bS ?_ GE250.out|refine bS ?_ GE251.out)|exact HB.out)) hb)
        have n5_:=Am (hbox)
        have n6_:=Am ((by rw [hg];exact (bU (by repeat (first|(with_reducible first|exact HB.out|apply bA|apply bN|apply bD|refine bS ?_ GE250.out|refine bS ?_ GE251.out)|exact HB.out))):w.heap.size ≤ gb275))
        have n7_:=Am ((by rw [hg];exact (bU (by repeat (first|(with_reducible first|exact HB.out|apply bA|apply bN|apply bD|refine bS ?_ GE250.out|refine bS ?_ GE251.out)|exact HB.out))):w.heap.size ≤ gb275))
        have n8_:=Am ((by rw [hg];exact Nat.ne_of_lt (blk_lt (bB BK250.out)):gb250 ≠ gb275))
        have n9_:=Am ((by rw [hg];exact Nat.ne_of_gt (blk_lt (bB BK250.out)):gb275 ≠ gb250))
        have n10_:=Am ((by rw [hg];exact Nat.ne_of_lt (blk_lt (bB BK251.out)):gb251 ≠ gb275))
        have n11_:=Am ((by rw [hg];exact Nat.ne_of_gt (blk_lt (bB BK251.out)):gb275 ≠ gb251))
        clear HO_8
        clear HO_9
        clear BK250
        clear BK251
        clear HB
        have HO_8:=n0_
        have HO_9:=n1_
        have BK250:=n2_
        have BK251:=n3_
        have HB:=n4_
        have BK275:=n5_
        have GW275:=n6_
        have GE275:=n7_
        have NB250_275:=n8_
        have NB275_250:=n9_
        have NB251_275:=n10_
        have NB275_251:=n11_
        clear n0_ n1_ n2_ n3_ n4_ n5_ n6_ n7_ n8_ n9_ n10_ n11_
        clear hb hbox hg
        refine hK.out _ _ ⟨bM BK250.out 0 rfl,bM BK250.out 1 rfl,bM BK250.out 2 rfl,bM BK250.out 3 rfl⟩ (fun hHeld=>?_)
        clear hK K
        refine norm_ (a':=?_) ?_ ?_
        rotate_left
        ·show Act.put _ (some 15) _ = _
         simp only [Act.put,List.setIfInBounds_toArray,List.set_cons_zero,List.set_cons_succ,i64_w,i32_w]
         rfl
        refine one_ (i:=3) (N:=some 57) #[true,true,true,true,true,true,false,true,false] rfl rfl (one_of HT_.out (by kernel_rfl)) (by decide) (fun K hK=>?_)
        refine goes_ Tryd.func61 (by kernel_rfl) rfl #[.slice Ao72 x8_1.length co72] (by rfl) rfl rfl (by (try simp only [List.map_toArray,List.map_cons,List.map_nil]);first|done|rfl|(simp only [List.length_drop,List.length_take];rfl)) ?_
        with_reducible refine (spec_PathClean.calls k1 _ _ x8_1 t272 _ ?side1 ?side2 A27.out).mono ?_
        (case side1=>repeat (first|exact (Kd.R_reads' HO_8.out).2.2|(with_reducible refine bC ?_)))
        (case side2=>exact (Kd.R_reads' HO_8.out).2.1)
        rintro e w75 ⟨v273,rfl,ho0,hb⟩
        refine ⟨_,rfl,?_⟩
        have n0_:=Am (Kd.R_elder' (bR HO_8.out) (Kd.R_base ho0) hb)
        have n1_:=Am (Kd.R_elder' (bR HO_9.out) (Kd.R_base ho0) hb)
        have n2_:=Am (Kd.R_lower (Kd.R_new' (Kd.R_new' ho0 (Kd.R_lt (bR HO_8.out))) (Kd.R_lt (bR HO_9.out))) (bU (by repeat (first|(with_reducible first|exact HB.out|apply bA|apply bN|apply bD|refine bS ?_ GE250.out|refine bS ?_ GE251.out|refine bS ?_ GE275.out)|exact HB.out))))
        have n3_:=Am (blk_below (bB BK250.out) hb)
        have n4_:=Am (blk_below (bB BK251.out) hb)
        have n5_:=Am (blk_below (bB BK275.out) hb)
        have n6_:=Am (bT (by repeat (first|(with_reducible first|exact HB.out|apply bA|apply bN|apply bD|refine bS ?_ GE250.out|refine bS ?_ GE251.out|refine bS ?_ GE275.out)|exact HB.out)) hb)
        clear HO_8
        clear HO_9
        clear BK250
        clear BK251
        clear BK275
        clear HB
        have HO_8:=n0_
        have HO_9:=n1_
        have HO274:=n2_
        have BK250:=n3_
        have BK251:=n4_
        have BK275:=n5_
        have HB:=n6_
        clear n0_ n1_ n2_ n3_ n4_ n5_ n6_
        (try clear hb)
        (try clear hb2)
        (try clear hk)
        (try clear hi)
        (try clear ho0)
        obtain ⟨Ao76,co76,eo76⟩:=Kd.R_slice HO274.out
        (first|subst eo76|(injection eo76 with f1_ f2_ f3_;have f4_:=f1_.symm;have f5_:=f3_.symm;clear f1_ f2_ f3_;subst f4_;subst f5_))
        refine hK.out _ _ ⟨bM BK250.out 0 rfl,bM BK250.out 1 rfl,bM BK250.out 2 rfl,bM BK250.out 3 rfl⟩ (fun hHeld=>?_)
        clear hK K
        refine norm_ (a':=?_) ?_ ?_
        rotate_left
        ·show Act.put _ (some 57) _ = _
         simp only [Act.put,List.setIfInBounds_toArray,List.set_cons_zero,List.set_cons_succ,i64_w,i32_w]
         rfl
        refine pure_ (i:=6) (N:=some 60) (v:=?_) (a':=?_) #[true,true,true,true,true,true,true,true,false] rfl rfl (any_of HT_.out (by kernel_rfl)) (fun _ _ _ h=>h) (Or.inl ⟨by rfl,?_⟩) ?_ ?_
        rotate_left
        ·intro w'
         go_simp
         with_reducible rfl
        rotate_left
        ·simp only [Act.put,List.setIfInBounds_toArray,List.set_cons_zero,List.set_cons_succ,i64_w,i32_w]
         rfl
        exact norm_ (by simp only [putAll,Act.put,List.setIfInBounds_toArray,List.set_cons_zero,List.set_cons_succ]) (hCont (.slice Ao76 t272.length co76,gb275) _ ⟨hHeld,(by (with_reducible repeat (first|apply rA|apply rN|apply rD));exact Kd.R_mono HO274.out (fun _ hk=>⟨hk.1.2,hk.2⟩)),(by (with_reducible repeat (first|apply rA|apply rN|apply rD));exact Kd.R_mono HO_8.out (fun _ hk=>⟨hk.2,hk.1⟩)),(by (with_reducible repeat (first|apply rA|apply rN|apply rD));exact Kd.R_mono HO_9.out (fun _ hk=>⟨hk.2,hk.1⟩)),(bB BK250.out),(bB BK251.out),(bB BK275.out),GW275.out,GE275.out,NB250_275.out,NB275_250.out,NB251_275.out,NB275_251.out,(by repeat (first|(with_reducible first|exact HB.out|apply bA|apply bN|apply bD|refine bS ?_ GE250.out|refine bS ?_ GE251.out|refine bS ?_ GE275.out)|exact HB.out))⟩)
      rintro ⟨v273,gb275⟩ w77 ⟨hS_,h0_,h1_,h2_,h3_,h4_,h5_,h6_,h7_,h8_,h9_,h10_,h11_,h12_⟩
      have n0_:Aside0 (Kd.R Kd.string 9 w77 w.heap.size (fun k_=>some k_ ≠ (.slice Ao72 x8_1.length co72:Value).ownBlock ∧ some k_ ≠ (.slice Ao70 t261.length co70:Value).ownBlock) v273 t272):=⟨h0_⟩
      have n1_:Aside0 (Kd.R Kd.string 9 w77 w.heap.size (fun k_=>some k_ ≠ (v273:Value).ownBlock ∧ some k_ ≠ (.slice Ao70 t261.length co70:Value).ownBlock) (.slice Ao72 x8_1.length co72) x8_1):=⟨h1_⟩
      have n2_:Aside0 (Kd.R Kd.string 9 w77 w.heap.size (fun k_=>some k_ ≠ (v273:Value).ownBlock ∧ some k_ ≠ (.slice Ao72 x8_1.length co72:Value).ownBlock) (.slice Ao70 t261.length co70) t261):=⟨h2_⟩
      have n3_:Aside0 (w77.heap[gb250]? = some (.cells #[.string a0_0, .slice A0_1 l0_1.length c0_1, .bool a0_2, .string a0_3] 25 (0,0))):=⟨h3_⟩
      have n4_:Aside0 (w77.heap[gb251]? = some (.cells #[.string x252000_1, .slice none 0 0, .bool x252002_1, .string x252003_1] 25 (0,0))):=⟨h4_⟩
      have n5_:Aside0 (w77.heap[gb275]? = some (.cells #[.string (⟨#[]⟩:ByteArray), .slice none 0 0, .bool false, .string (⟨#[]⟩:ByteArray)] 25 (0,0))):=⟨h5_⟩
      have n6_:Aside0 (w.heap.size ≤ gb275):=⟨h6_⟩
      have n7_:Aside0 (w.heap.size ≤ gb275):=⟨h7_⟩
      have n8_:Aside0 (gb250 ≠ gb275):=⟨h8_⟩
      have n9_:Aside0 (gb275 ≠ gb250):=⟨h9_⟩
      have n10_:Aside0 (gb251 ≠ gb275):=⟨h10_⟩
      have n11_:Aside0 (gb275 ≠ gb251):=⟨h11_⟩
      have n12_:Aside0 (Below w.heap.size w w77):=⟨h12_⟩
      clear HO_8
      clear HO_9
      clear BK250
      clear BK251
      clear HB
      clear h0_ h1_ h2_ h3_ h4_ h5_ h6_ h7_ h8_ h9_ h10_ h11_ h12_
      have HO274:=n0_
      have HO_8:=n1_
      have HO_9:=n2_
      have BK250:=n3_
      have BK251:=n4_
      have BK275:=n5_
      have GW275:=n6_
      have GE275:=n7_
      have NB250_275:=n8_
      have NB275_250:=n9_
      have NB251_275:=n10_
      have NB275_251:=n11_
      have HB:=n12_
      clear n0_ n1_ n2_ n3_ n4_ n5_ n6_ n7_ n8_ n9_ n10_ n11_ n12_
      have hHeld:w77.cell? ⟨gb250,0,none⟩ = some (.string a0_0) ∧ w77.cell? ⟨gb250,1,none⟩ = some (.slice A0_1 l0_1.length c0_1) ∧ w77.cell? ⟨gb250,2,none⟩ = some (.bool a0_2) ∧ w77.cell? ⟨gb250,3,none⟩ = some (.string a0_3):=hS_
      obtain ⟨Ao78,co78,eo78⟩:=Kd.R_slice HO274.out
      (first|subst eo78|(injection eo78 with f1_ f2_ f3_;have f4_:=f1_.symm;have f5_:=f3_.symm;clear f1_ f2_ f3_;subst f4_;subst f5_))
      refine norm_ (a':=?_) ?_ ?_
      rotate_left
      ·simp only [putAll,Act.put,List.setIfInBounds_toArray,List.set_cons_zero,List.set_cons_succ]
       rfl
      refine one_ (i:=8) (N:=none) #[true,true,true,true,true,true,true,true,true] rfl rfl (one_of HT_.out (by kernel_rfl)) (by decide) (fun K hK=>?_)
      have hs79:w77.cell? ⟨gb275,0,none⟩ = some (.string (⟨#[]⟩:ByteArray)):=bM BK275.out 0 rfl
      have hfs79:=bZ BK275.out 0
      have hns79_0:=NB250_275.out
      have hns79_1:=NB251_275.out
      have hms79_0:=NB275_250.out
      have hms79_1:=NB275_251.out
      have hs80:w77.cell? ⟨gb275,1,none⟩ = some (.slice none 0 0):=bM BK275.out 1 rfl
      have hfs80:=bZ BK275.out 1
      have hns80_0:=NB250_275.out
      have hns80_1:=NB251_275.out
      have hms80_0:=NB275_250.out
      have hms80_1:=NB275_251.out
      have hs81:w77.cell? ⟨gb275,2,none⟩ = some (.bool false):=bM BK275.out 2 rfl
      have hfs81:=bZ BK275.out 2
      have hns81_0:=NB250_275.out
      have hns81_1:=NB251_275.out
      have hms81_0:=NB275_250.out
      have hms81_1:=NB275_251.out
      have hs82:w77.cell? ⟨gb275,3,none⟩ = some (.string (⟨#[]⟩:ByteArray)):=bM BK275.out 3 rfl
      have hfs82:=bZ BK275.out 3
      have hns82_0:=NB250_275.out
      have hns82_1:=NB251_275.out
      have hms82_0:=NB275_250.out
      have hms82_1:=NB275_251.out
      refine skip_ (w1:=?_) (by rfl) rfl ?_ ?_
      rotate_left
      ·go_simp
       rfl
      refine hK.out _ _ ⟨((cell_far (p:=⟨gb275,_,none⟩) NB250_275.out _).trans (((cell_far (p:=⟨gb275,_,none⟩) NB250_275.out _).trans (((cell_far (p:=⟨gb275,_,none⟩) NB250_275.out _).trans (((cell_far (p:=⟨gb275,_,none⟩) NB250_275.out _).trans (hHeld.1)))))))),((cell_far (p:=⟨gb275,_,none⟩) NB250_275.out _).trans (((cell_far (p:=⟨gb275,_,none⟩) NB250_275.out _).trans (((cell_far (p:=⟨gb275,_,none⟩) NB250_275.out _).trans (((cell_far (p:=⟨gb275,_,none⟩) NB250_275.out _).trans (hHeld.2.1)))))))),((cell_far (p:=⟨gb275,_,none⟩) NB250_275.out _).trans (((cell_far (p:=⟨gb275,_,none⟩) NB250_275.out _).trans (((cell_far (p:=⟨gb275,_,none⟩) NB250_275.out _).trans (((cell_far (p:=⟨gb275,_,none⟩) NB250_275.out _).trans (hHeld.2.2.1)))))))),((cell_far (p:=⟨gb275,_,none⟩) NB250_275.out _).trans (((cell_far (p:=⟨gb275,_,none⟩) NB250_275.out _).trans (((cell_far (p:=⟨gb275,_,none⟩) NB250_275.out _).trans (((cell_far (p:=⟨gb275,_,none⟩) NB250_275.out _).trans (hHeld.2.2.2))))))))⟩ (fun hHeld=>?_)
      clear hK K
      refine done_ (done_of HT_.out (by kernel_rfl)) ?_
      have hnb83:=NB251_250.out
      have hnc83:=NB250_251.out
      have hnb84:=NB251_275.out
      have hnc84:=NB275_251.out
      have hcz85_0:w77.cell? ⟨gb251,0,none⟩ = some (.string x252000_1):=bM BK251.out 0 rfl
      have hcz85_1:w77.cell? ⟨gb251,1,none⟩ = some (.slice none 0 0):=bM BK251.out 1 rfl
      have hcz85_2:w77.cell? ⟨gb251,2,none⟩ = some (.bool x252002_1):=bM BK251.out 2 rfl
      have hcz85_3:w77.cell? ⟨gb251,3,none⟩ = some (.string x252003_1):=bM BK251.out 3 rfl
      have hfz85_0:=bZ BK251.out 0
      have hfz85_1:=bZ BK251.out 1
      have hfz85_2:=bZ BK251.out 2
      have hfz85_3:=bZ BK251.out 3
      try go_wp2
      refine bodyPost_ret (results_ct rfl _ _ gb251 25 #[.string (⟨#[]⟩:ByteArray), .slice none 0 0, .bool false, .string (⟨#[]⟩:ByteArray)] (0,0) _ rfl (by refine bB ?_;apply bP;refine bB ?_;refine bF ?_ NB251_275.out;refine bB ?_;exact BK251.out) Tryd.underlying25 rfl (by kernel_rfl)) rfl ?_
      exact ⟨_,by first|rfl|(simp <;> rfl)|(simp [*] <;> rfl),by first|exact Kd.R_nil _ _ _ _ _|exact Kd.N_nil _ _ _ _ _|exact Kd.V_nil _ _ _ _ _|exact Kd.Q_nil _ _ _ _ _|exact Kd.S_nil _ _ _ _ _,by repeat (first|(with_reducible first|exact HB.out|apply bA|apply bN|apply bD|refine bS ?_ GE250.out|refine bS ?_ GE251.out|refine bS ?_ GE275.out)|exact HB.out)⟩
 ·rw [if_neg c4] at H
  exact absurd H (by simp)

def spec_l1Small.lo (x:Int):Int:=if 65 ≤ x ∧ x ≤ 90 then x + 32 else x
def spec_l1Small.f (a0:ByteArray):Option ByteArray:=if a0.size ≤ 1000000 then some (strOfNums ((bytesOf a0).map spec_l1Small.lo)) else none
def spec_l1Small.upto (xs:List Int) (k:Nat):List Int:=(xs.take k).map spec_l1Small.lo ++ xs.drop k
def spec_l1Small.Row (w wr:World) (e:Nat) (xs:List Int):Prop :=
 Below w.heap.size w wr ∧ ∃ C:Array Value,wr.heap[w.heap.size]? = some (.cells C e (C.size,C.size + 1)) ∧ xs.length ≤ C.size ∧ ∀ j,j < xs.length → C[j]? = some (.int .u8 (xs.getD j 0))
theorem spec_l1Small.upto_length (xs:List Int) (k:Nat):(spec_l1Small.upto xs k).length = xs.length:=by
 unfold spec_l1Small.upto;simp;omega
theorem spec_l1Small.upto_at (xs:List Int) (k:Nat) (h:k < xs.length):(spec_l1Small.upto xs k).getD k 0 = xs.getD k 0:=by
 unfold spec_l1Small.upto
 rw [List.getD_eq_getElem?_getD,List.getElem?_append_right (by simp;omega)]
 simp only [List.length_map,List.length_take,List.getElem?_drop,List.getD_eq_getElem?_getD]
 rw [show k + (k - min k xs.length) = k by omega]
theorem spec_l1Small.upto_succ (xs:List Int) (k:Nat) (h:k < xs.length):spec_l1Small.upto xs (k + 1) = (spec_l1Small.upto xs k).set k (spec_l1Small.lo (xs.getD k 0)):=by
 unfold spec_l1Small.upto
 have hl:((xs.take k).map spec_l1Small.lo).length = k:=by simp;omega
 rw [List.set_append_right k _ (by omega),hl,Nat.sub_self,List.drop_eq_getElem_cons h,List.set_cons_zero,List.take_succ_eq_append_getElem h,List.map_append,List.getD_eq_getElem?_getD,List.getElem?_eq_getElem h]
 simp
theorem spec_l1Small.upto_same (xs:List Int) (k:Nat) (h:k < xs.length) (hn:¬ (65 ≤ xs.getD k 0 ∧ xs.getD k 0 ≤ 90)):spec_l1Small.upto xs (k + 1) = spec_l1Small.upto xs k:=by
 rw [spec_l1Small.upto_succ xs k h]
 have:spec_l1Small.lo (xs.getD k 0) = (spec_l1Small.upto xs k).getD k 0:=by
  rw [spec_l1Small.upto_at xs k h];unfold spec_l1Small.lo;rw [if_neg hn]
 rw [this,List.getD_eq_getElem?_getD,List.getElem?_eq_getElem (by rw [spec_l1Small.upto_length];exact h),Option.getD_some,List.set_getElem_self]
theorem spec_l1Small.upto_all (xs:List Int):spec_l1Small.upto xs xs.length = xs.map spec_l1Small.lo:=by
 unfold spec_l1Small.upto;simp
theorem spec_l1Small.Row.new (w:World) (e:Nat) (s:ByteArray):spec_l1Small.Row w (Lib.bytesWorld w e s) e (bytesOf s):=by
 refine ⟨⟨rfl,rfl,rfl,by rw [Lib.bytesWorld_size];omega,fun k hk=>Lib.bytesWorld_at_old w e s k hk⟩,_,Lib.bytesWorld_at_new w e s,?_,fun j hj=>?_⟩
 ·rw [bytesOf_length];simp [Lib.bytesCells]
 ·rw [bytesOf_length] at hj
  have h:=Lib.bytesWorld_cell w e s j hj
  simp only [World.cell?,Lib.bytesWorld_at_new] at h
  rw [show (bytesOf s).getD j 0 = ((s.data.toList.getD j 0).toNat:Int) by
   unfold bytesOf
   rw [List.getD_eq_getElem?_getD,List.getD_eq_getElem?_getD,List.getElem?_map]
   have:j < s.data.toList.length:=by rw [data_length];exact hj
   rw [List.getElem?_eq_getElem this];rfl]
  simpa using h
theorem spec_l1Small.Row.cell {w wr:World} {e:Nat} {xs:List Int} (h:spec_l1Small.Row w wr e xs) {j:Nat} (hj:j < xs.length):wr.cell? ⟨w.heap.size,j,none⟩ = some (.int .u8 (xs.getD j 0)):=by
 obtain ⟨_,C,hC,hl,hx⟩:=h
 simp only [World.cell?,hC]
 simpa using hx j hj
theorem spec_l1Small.Row.free {w wr:World} {e:Nat} {xs:List Int} (h:spec_l1Small.Row w wr e xs) {j:Nat} (hj:j < xs.length):wr.frozen? ⟨w.heap.size,j,none⟩ = false:=by
 obtain ⟨_,C,hC,hl,hx⟩:=h
 simp only [World.frozen?,hC]
 simp;omega
theorem spec_l1Small.Row.set {w wr:World} {e:Nat} {xs:List Int} (h:spec_l1Small.Row w wr e xs) (j:Nat) (x:Int):spec_l1Small.Row w (wr.setCell ⟨w.heap.size,j,none⟩ (.int .u8 x)) e (xs.set j x):=by
 obtain ⟨hb,C,hC,hl,hx⟩:=h
 refine ⟨below_set hb (Nat.le_refl _),C.setIfInBounds j (.int .u8 x),?_,by simpa using hl,fun i hi=>?_⟩
 ·simp [World.setCell,Array.getElem?_modify,hC]
 ·rw [List.length_set] at hi
  by_cases hij:i = j
  ·subst hij
   rw [Array.getElem?_setIfInBounds_self_of_lt (by omega),List.getD_eq_getElem?_getD,List.getElem?_set_self hi];rfl
  ·rw [Array.getElem?_setIfInBounds_ne (Ne.symm hij),hx i hi,List.getD_eq_getElem?_getD,List.getD_eq_getElem?_getD,List.getElem?_set_ne (Ne.symm hij)]
theorem spec_l1Small.Row.reads {w wr:World} {e:Nat} {xs:List Int} (h:spec_l1Small.Row w wr e xs) (hm:xs.length ≤ 1000000):ReadsInt wr .u8 (some ⟨w.heap.size,0,none⟩) xs.length xs:=by
 refine ⟨rfl,by omega,fun _=>⟨_,rfl,fun j hj=>?_⟩⟩
 rw [add_plain];exact h.cell hj
theorem spec_l1Small.byte_bd (s:ByteArray) (k:Nat):0 ≤ (bytesOf s).getD k 0 ∧ (bytesOf s).getD k 0 ≤ 255:=by
 have:=bt_range s k
 rw [← rd_bytesOf] at this
 simpa [rd] using this
theorem spec_l1Small.calls (a0:ByteArray) (r:ByteArray) (w:World) (h:spec_l1Small.f a0 = some r) :
  Calls Tryd.prog 58 #[.string a0] w fun e w'=>e = .returned (.string r) ∧ Below w.heap.size w w':=by
 have hs:a0.size ≤ 1000000:=by
  unfold spec_l1Small.f at h
  split at h
  ·assumption
  ·cases h
 have HR:=Am (show strOfNums ((bytesOf a0).map spec_l1Small.lo) = r by
  unfold spec_l1Small.f at h
  rw [if_pos hs] at h
  exact Option.some.inj h)
 clear h
 obtain ⟨W0,cap,hcv,HW⟩:∃ W0 cap,(convert 9 22 (.string a0)).run Tryd.prog w = .ok (.slice (some ⟨w.heap.size,0,none⟩) a0.size cap) W0 ∧ Aside0 (spec_l1Small.Row w W0 5 (spec_l1Small.upto (bytesOf a0) 0)):=by
  refine ⟨_,_,Lib.run_convert_string_bytes w 9 22 5 a0 Tryd.underlying9 Tryd.underlying22 Tryd.underlying5,⟨?_⟩⟩
  have:=spec_l1Small.Row.new w 5 a0
  simpa [spec_l1Small.upto] using this
 go_enter Tryd.func58,Tryd.ntmps58
 go_wp2
 go_loopw [4] (fun v wr=>∃ k:Nat,k ≤ a0.size ∧ v = .int .i64 k ∧ Aside0 (spec_l1Small.Row w wr 5 (spec_l1Small.upto (bytesOf a0) k))) (fun v _=>a0.size - (intOf v).toNat)
 case atStart=>exact ⟨0,Nat.zero_le _,rfl,HW⟩
 case round =>
  clear hcv HW
  obtain ⟨k,hk,rfl,HK⟩:=hrel
  by_cases hlt:k < a0.size
  ·have HL:=Am (bytesOf_length a0)
   have hbd:=spec_l1Small.byte_bd a0 k
   have hc:=HK.out.cell (j:=k) (by rw [spec_l1Small.upto_length,HL.out];exact hlt)
   rw [spec_l1Small.upto_at _ k (by rw [HL.out];exact hlt)] at hc
   have hf:=HK.out.free (j:=k) (by rw [spec_l1Small.upto_length,HL.out];exact hlt)
   generalize hx:(bytesOf a0).getD k 0 = x at hc hbd
   have HX:=Am hx
   clear hx
   by_cases h1:65 ≤ x
   ·by_cases h2:x ≤ 90
    ·have HN:=Am (HK.out.set k (x + 32))
     go_wp2
     go_roundw
     case rel=>exact ⟨k + 1,by omega,by go_num,⟨by
      rw [spec_l1Small.upto_succ _ k (by rw [HL.out];exact hlt),HX.out,show spec_l1Small.lo x = x + 32 by unfold spec_l1Small.lo;rw [if_pos ⟨h1,h2⟩]]
      exact HN.out⟩⟩
     case measure=>simp [intOf];omega
    ·go_wp2
     go_roundw
     case rel=>exact ⟨k + 1,by omega,by go_num,⟨by
      rw [spec_l1Small.upto_same _ k (by rw [HL.out];exact hlt) (by rw [HX.out];omega)]
      exact HK.out⟩⟩
     case measure=>simp [intOf];omega
   ·go_wp2
    go_roundw
    case rel=>exact ⟨k + 1,by omega,by go_num,⟨by
     rw [spec_l1Small.upto_same _ k (by rw [HL.out];exact hlt) (by rw [HX.out];omega)]
     exact HK.out⟩⟩
    case measure=>simp [intOf];omega
  ·obtain rfl:k = a0.size:=by omega
   have HL:=Am (bytesOf_length a0)
   have hcb:(convert 22 9 (.slice (some ⟨w.heap.size,0,none⟩) a0.size cap)).run Tryd.prog wr = .ok (.string r) wr:=by
    have e:spec_l1Small.upto (bytesOf a0) a0.size = (bytesOf a0).map spec_l1Small.lo:=by
     rw [← HL.out];exact spec_l1Small.upto_all _
    have h:=HK.out
    rw [e] at h
    have hl:((bytesOf a0).map spec_l1Small.lo).length = a0.size:=by rw [List.length_map,HL.out]
    have hr:=h.reads (by omega)
    rw [hl] at hr
    rw [← HR.out]
    exact string_of_reads Tryd.underlying22 Tryd.underlying5 Tryd.underlying9 hr
   have HB:=Am HK.out.1
   go_wp2
   go_ret
   exact ⟨rfl,HB.out⟩

def spec_l1Whole.l0:Nat → ByteArray → ByteArray → ByteArray → Int → Option (ByteArray × List ByteArray × Bool × ByteArray × Bool)
 | 0,_,_,_,_=>none
 | k + 1,x0,x4,x5,x6=>if x6 < (x0.size:Int) then (if 0 ≤ x6 then (if (bt x0 x6) = 47 then (if x6 ≤ (x0.size:Int) then ((spec_l1Small.f (x0.extract 0 (x6:Int).toNat)).bind fun t278=>((spec_l1Way.f k t278 ([]:List ByteArray) false (⟨#[]⟩:ByteArray) (x0.extract (x6:Int).toNat x0.size)).bind fun bt279=>(some (bt279.1,bt279.2.1,bt279.2.2.1,bt279.2.2.2.1,bt279.2.2.2.2)))) else (none)) else (if (bt x0 x6) = 63 then (if x6 ≤ (x0.size:Int) then ((spec_l1Small.f (x0.extract 0 (x6:Int).toNat)).bind fun t286=>((spec_l1Way.f k t286 ([]:List ByteArray) false (⟨#[]⟩:ByteArray) (x0.extract (x6:Int).toNat x0.size)).bind fun bt287=>(some (bt287.1,bt287.2.1,bt287.2.2.1,bt287.2.2.2.1,bt287.2.2.2.2)))) else (none)) else (spec_l1Whole.l0 k x0 x4 x5 (wrap64 (x6 + 1))))) else (none)) else ((spec_l1Small.f x4).bind fun t294=>((spec_l1Way.f k t294 ([]:List ByteArray) false (⟨#[]⟩:ByteArray) x5).bind fun bt295=>(some (bt295.1,bt295.2.1,bt295.2.2.1,bt295.2.2.2.1,bt295.2.2.2.2))))
def spec_l1Whole.f (k:Nat) (a0:ByteArray):Option (ByteArray × List ByteArray × Bool × ByteArray × Bool):=spec_l1Whole.l0 k a0 a0 (⟨#[]⟩:ByteArray) 0
theorem spec_l1Whole.mono_l:∀ k,(∀ y0 y1 y2 y3,LeO (spec_l1Whole.l0 k y0 y1 y2 y3) (spec_l1Whole.l0 (k + 1) y0 y1 y2 y3))
 | 0=>fun _ _ _ _ r h=>by simp [spec_l1Whole.l0] at h
 | k + 1=>by
  have ih0:=spec_l1Whole.mono_l k
  ·intro y0 y1 y2 y3
   unfold spec_l1Whole.l0
   repeat' first
   | (with_reducible apply ih0)
   | (with_reducible apply spec_l1Way.mono)
   | (with_reducible exact LeO.refl _)
   | (with_reducible exact LeO.none _)
   | (with_reducible refine LeO.ite ?_ ?_)
   | (with_reducible refine LeO.bind ?_ (fun _=>?_))
   | exact ih0 _ _ _ _
   | exact spec_l1Way.mono _ _ _ _ _ _
   | exact LeO.none _
   | refine LeO.ite ?_ ?_
   | refine LeO.bind ?_ (fun _=>?_)
theorem spec_l1Whole.mono:∀ a0 k,LeO (spec_l1Whole.f k a0) (spec_l1Whole.f (k + 1) a0):=by
 intro a0 k
 have ih0:=spec_l1Whole.mono_l k
 unfold spec_l1Whole.f
 repeat' first
   | (with_reducible apply ih0)
   | (with_reducible apply spec_l1Way.mono)
   | (with_reducible exact LeO.refl _)
   | (with_reducible exact LeO.none _)
   | (with_reducible refine LeO.ite ?_ ?_)
   | (with_reducible refine LeO.bind ?_ (fun _=>?_))
   | exact ih0 _ _ _ _
   | exact spec_l1Way.mono _ _ _ _ _ _
   | exact LeO.none _
   | refine LeO.ite ?_ ?_
   | refine LeO.bind ?_ (fun _=>?_)
theorem spec_l1Whole.calls (k:Nat) (a0:ByteArray) (r1:ByteArray) (r2:List ByteArray) (r3:Bool) (r4:ByteArray) (r5:Bool) (w:World) (h:spec_l1Whole.f k a0 = some (r1,r2,r3,r4,r5)) :
  Calls Tryd.prog 33 #[.string a0] w fun e w'=>∃ v1_:Value,e = .returned (.tuple #[.agg #[.string r1,v1_, .bool r3, .string r4], .bool r5]) ∧ Kd.R Kd.string 9 w' w.heap.size (fun _=>True) v1_ r2 ∧ Below w.heap.size w w':=by
 have hu25:=Tryd.underlying25
 have HB:=Am (Below.refl w.heap.size w)
 have H:(spec_l1Whole.l0 k a0 a0 (⟨#[]⟩:ByteArray) 0) = some (r1,r2,r3,r4,r5):=h
 clear h
 have H':=Am H
 clear H
 go_enter Tryd.func33,Tryd.ntmps33
 go_wp2_with (first|((with_reducible refine gate_dst (N:=2) rfl ?_);refine box_event ?hg (N:=2) ?hd (cs:=#[.string (⟨#[]⟩:ByteArray), .slice none 0 0, .bool false, .string (⟨#[]⟩:ByteArray)]) (t:=25) ?hr ?_;(case hd=>rfl);(case hg=>rfl);(case hr=>(go_simp <;> rfl));intro gb277 hg w2 hbox hb;have n0_:=Am (bT (by repeat (first|(with_reducible first|exact HB.out|apply bA|apply bN|apply bD)|exact HB.out)) hb);have n1_:=Am (hbox);have n2_:=Am ((by rw [hg];exact (bU (by repeat (first|(with_reducible first|exact HB.out|apply bA|apply bN|apply bD)|exact HB.out))):w.heap.size ≤ gb277));have n3_:=n2_;clear HB;have HB:=n0_;have BK277:=n1_;have GW277:=n2_;have GE277:=n3_;clear n0_ n1_ n2_ n3_ hb hbox hg))
 go_loopg [4,5,6] k (fun kq v4 v5 v6 w'=>∃ (x4_1:ByteArray) (x5_1:ByteArray) (x6_1:Int),v4 = .string x4_1 ∧ v5 = .string x5_1 ∧ v6 = .int .i64 x6_1 ∧ Aside0 (spec_l1Whole.l0 kq a0 x4_1 x5_1 x6_1 = some (r1,r2,r3,r4,r5)) ∧ Aside0 (kq ≤ k) ∧ Aside0 (w'.heap[gb277]? = some (.cells #[.string (⟨#[]⟩:ByteArray),(.slice none 0 0), .bool false, .string (⟨#[]⟩:ByteArray)] 25 (0,0))) ∧ Aside0 (Below w.heap.size w w'))
 case atStart=>exact ⟨(a0),((⟨#[]⟩:ByteArray)),(0),(by first|rfl|(simp;done)|(simp only [i64_w,i32_w] <;> rfl)|(simp [*];done)|(simp [emp_bne,emp_beq];done)),(by first|rfl|(simp;done)|(simp only [i64_w,i32_w] <;> rfl)|(simp [*];done)|(simp [emp_bne,emp_beq];done)),(by first|rfl|(simp;done)|(simp only [i64_w,i32_w] <;> rfl)|(simp [*];done)|(simp [emp_bne,emp_beq];done)),H',⟨Nat.le_refl _⟩,⟨by refine bB ?_;exact BK277.out⟩,⟨by repeat (first|(with_reducible first|exact HB.out|apply bA|apply bN|apply bD|refine bS ?_ GE277.out)|exact HB.out)⟩⟩
 case round =>
  clear H'
  try clear p2
  obtain ⟨x4_1,x5_1,x6_1,rfl,rfl,rfl,HA,HK1,BK277,HB⟩:=hrel
  cases gk with
  | zero=>exact absurd HA.out (by simp [spec_l1Whole.l0])
  | succ k1 =>
   have H:=HA.out
   clear HA
   simp only [spec_l1Whole.l0] at H
   by_cases c3:x6_1 < (a0.size:Int)
   ·rw [if_pos c3] at H
    have c3b0:decide (x6_1 < (a0.size:Int)) = true:=decide_eq_true c3
    clear c3
    by_cases c4:0 ≤ x6_1
    ·rw [if_pos c4] at H
     have c4b0:decide (0 ≤ x6_1) = true:=decide_eq_true c4
     clear c4
     by_cases c6:(bt a0 x6_1) = 47
     ·rw [if_pos c6] at H
      have c6b0:((bt a0 x6_1) == 47) = true:=beq_iff_eq.mpr c6
      have c6b1:((bt a0 x6_1) != 47) = false:=bne_eq_false_iff_eq.mpr c6
      clear c6
      have c7b0:=eq_true (oD (by assumption):0 ≤ x6_1)
      by_cases c8:x6_1 ≤ (a0.size:Int)
      ·rw [if_pos c8] at H
       have c8b0:=eq_true c8
       have c8b1:=decide_eq_true c8
       clear c8
       have c9b0:=eq_true (oD (by assumption):0 ≤ x6_1)
       have c10b0:=eq_true (oD (by assumption):x6_1 ≤ (a0.size:Int))
       replace H:=bI H
       obtain ⟨t278,A110,H⟩:=H
       replace H:((spec_l1Way.f k1 t278 ([]:List ByteArray) false (⟨#[]⟩:ByteArray) (a0.extract (x6_1:Int).toNat a0.size)).bind fun bt279=>(some (bt279.1,bt279.2.1,bt279.2.2.1,bt279.2.2.2.1,bt279.2.2.2.2))) = some (r1,r2,r3,r4,r5):=H
       have A11:=Am A110
       clear A110
       replace H:=bI H
       obtain ⟨⟨t279,t280,t283,t284,t285⟩,A120,H⟩:=H
       replace H:(some (t279,t280,t283,t284,t285)) = some (r1,r2,r3,r4,r5):=H
       have A12:=Am A120
       clear A120
       simp only [Option.some.injEq,Prod.mk.injEq] at H
       obtain ⟨rfl,rfl,rfl,rfl,rfl⟩:=H
       have p5:0 ≤ (x6_1:Int):=oD (by assumption)
       have q5:x6_1 < (a0.size:Int):=oD (by assumption)
       have hx5:=bt_at a0 x6_1
       replace p5:=eq_true p5
       replace q5:=eq_true q5
       go_wp2_with (first|((with_reducible refine gate_callee (f:=58) rfl ?_);refine goesL_ (some 31) rfl rfl Tryd.func58 (by kernel_rfl) rfl #[.string (a0.extract 0 (x6_1:Int).toNat)] rfl (aE1 rfl) ?_;(with_reducible refine (spec_l1Small.calls (a0.extract 0 (x6_1:Int).toNat) t278 _ A11.out).mono ?_);rintro e w13 ⟨rfl,hb⟩;refine ⟨_,rfl,?_⟩;have n0_:=Am (blk_below (bB BK277.out) hb);have n1_:=Am (bT (by repeat (first|(with_reducible first|exact HB.out|apply bA|apply bN|apply bD|refine bS ?_ GE277.out)|exact HB.out)) hb);clear BK277 HB;have BK277:=n0_;have HB:=n1_;clear n0_ n1_;(try clear hb))|((with_reducible refine gate_callee (f:=34) rfl ?_);refine goesL_ (some 34) rfl rfl Tryd.func34 (by kernel_rfl) rfl #[.agg #[.string t278, .slice none 0 0, .bool false, .string (⟨#[]⟩:ByteArray)], .string (a0.extract (x6_1:Int).toNat a0.size)] rfl (aE2 rfl rfl) ?_;(refine (spec_l1Way.calls k1 t278 _ _ ([]:List ByteArray) false (⟨#[]⟩:ByteArray) (a0.extract (x6_1:Int).toNat a0.size) t279 t280 t283 t284 t285 _ ?side1 ?side2 A12.out).mono ?_);(case side1=>exact Kd.C_nil _ _);(case side2=>exact Nat.le_refl _);rintro e w14 ⟨v281,rfl,ho0,hb⟩;refine ⟨_,rfl,?_⟩;have n0_:=Am (Kd.R_lower ho0 (bU (by repeat (first|(with_reducible first|exact HB.out|apply bA|apply bN|apply bD|refine bS ?_ GE277.out)|exact HB.out))));have n1_:=Am (blk_below (bB BK277.out) hb);have n2_:=Am (bT (by repeat (first|(with_reducible first|exact HB.out|apply bA|apply bN|apply bD|refine bS ?_ GE277.out)|exact HB.out)) hb);clear BK277 HB;have HO282:=n0_;have BK277:=n1_;have HB:=n2_;clear n0_ n1_ n2_;(try clear hb);(try clear ho0);have hcz15_0:w14.cell? ⟨gb277,0,none⟩ = some (.string (⟨#[]⟩:ByteArray)):=bM BK277.out 0 rfl;have hcz15_1:w14.cell? ⟨gb277,1,none⟩ = some (.slice none 0 0):=bM BK277.out 1 rfl;have hcz15_2:w14.cell? ⟨gb277,2,none⟩ = some (.bool false):=bM BK277.out 2 rfl;have hcz15_3:w14.cell? ⟨gb277,3,none⟩ = some (.string (⟨#[]⟩:ByteArray)):=bM BK277.out 3 rfl;have hfz15_0:=bZ BK277.out 0;have hfz15_1:=bZ BK277.out 1;have hfz15_2:=bZ BK277.out 2;have hfz15_3:=bZ BK277.out 3;obtain ⟨Ao16,co16,eo16⟩:=Kd.R_slice HO282.out;subst eo16))
       refine bodyPost_ret (results_ct rfl _ _ gb277 25 #[.string t279, .slice Ao16 t280.length co16, .bool t283, .string t284] (0,0) _ rfl (by refine bB ?_;apply bP;refine bB ?_;exact BK277.out) Tryd.underlying25 rfl (by kernel_rfl)) rfl ?_
       exact ⟨_,by first|rfl|(simp <;> rfl)|(simp [*] <;> rfl),by (with_reducible repeat (first|apply rA|apply rN|apply rD));exact Kd.R_mono (Kd.R_far (p:=⟨gb277,3,none⟩) (Kd.R_far (p:=⟨gb277,2,none⟩) (Kd.R_far (p:=⟨gb277,1,none⟩) (Kd.R_far (p:=⟨gb277,0,none⟩) (Kd.R_types HO282.out BK277.out (by decide)) (fun _ hk=>hk.2) (.string t279)) (fun _ hk=>hk.2) (.slice Ao16 t280.length co16)) (fun _ hk=>hk.2) (.bool t283)) (fun _ hk=>hk.2) (.string t284)) (fun _ hk=>trivial),by repeat (first|(with_reducible first|exact HB.out|apply bA|apply bN|apply bD|refine bS ?_ GE277.out)|exact HB.out)⟩
      ·rw [if_neg c8] at H
       exact absurd H (by simp)
     ·rw [if_neg c6] at H
      have c6b0:((bt a0 x6_1) == 47) = false:=beq_eq_false_iff_ne.mpr c6
      have c6b1:((bt a0 x6_1) != 47) = true:=bne_iff_ne.mpr c6
      by_cases c18:(bt a0 x6_1) = 63
      ·rw [if_pos c18] at H
       have c18b0:((bt a0 x6_1) == 63) = true:=beq_iff_eq.mpr c18
       have c18b1:((bt a0 x6_1) != 63) = false:=bne_eq_false_iff_eq.mpr c18
       clear c18
       have c19b0:=eq_true (oD (by assumption):0 ≤ x6_1)
       by_cases c20:x6_1 ≤ (a0.size:Int)
       ·rw [if_pos c20] at H
        have c20b0:=eq_true c20
        have c20b1:=decide_eq_true c20
        clear c20
        have c21b0:=eq_true (oD (by assumption):0 ≤ x6_1)
        have c22b0:=eq_true (oD (by assumption):x6_1 ≤ (a0.size:Int))
        replace H:=bI H
        obtain ⟨t286,A230,H⟩:=H
        replace H:((spec_l1Way.f k1 t286 ([]:List ByteArray) false (⟨#[]⟩:ByteArray) (a0.extract (x6_1:Int).toNat a0.size)).bind fun bt287=>(some (bt287.1,bt287.2.1,bt287.2.2.1,bt287.2.2.2.1,bt287.2.2.2.2))) = some (r1,r2,r3,r4,r5):=H
        have A23:=Am A230
        clear A230
        replace H:=bI H
        obtain ⟨⟨t287,t288,t291,t292,t293⟩,A240,H⟩:=H
        replace H:(some (t287,t288,t291,t292,t293)) = some (r1,r2,r3,r4,r5):=H
        have A24:=Am A240
        clear A240
        simp only [Option.some.injEq,Prod.mk.injEq] at H
        obtain ⟨rfl,rfl,rfl,rfl,rfl⟩:=H
        have p5:0 ≤ (x6_1:Int):=oD (by assumption)
        have q5:x6_1 < (a0.size:Int):=oD (by assumption)
        have hx5:=bt_at a0 x6_1
        replace p5:=eq_true p5
        replace q5:=eq_true q5
        have p17:0 ≤ (x6_1:Int):=oD (by assumption)
        have q17:x6_1 < (a0.size:Int):=oD (by assumption)
        have hx17:=bt_at a0 x6_1
        replace p17:=eq_true p17
        replace q17:=eq_true q17
        go_wp2_with (first|((with_reducible refine gate_callee (f:=58) rfl ?_);refine goesL_ (some 31) rfl rfl Tryd.func58 (by kernel_rfl) rfl #[.string (a0.extract 0 (x6_1:Int).toNat)] rfl (aE1 rfl) ?_;(with_reducible refine (spec_l1Small.calls (a0.extract 0 (x6_1:Int).toNat) t286 _ A23.out).mono ?_);rintro e w25 ⟨rfl,hb⟩;refine ⟨_,rfl,?_⟩;have n0_:=Am (blk_below (bB BK277.out) hb);have n1_:=Am (bT (by repeat (first|(with_reducible first|exact HB.out|apply bA|apply bN|apply bD|refine bS ?_ GE277.out)|exact HB.out)) hb);clear BK277 HB;have BK277:=n0_;have HB:=n1_;clear n0_ n1_;(try clear hb))|((with_reducible refine gate_callee (f:=34) rfl ?_);refine goesL_ (some 34) rfl rfl Tryd.func34 (by kernel_rfl) rfl #[.agg #[.string t286, .slice none 0 0, .bool false, .string (⟨#[]⟩:ByteArray)], .string (a0.extract (x6_1:Int).toNat a0.size)] rfl (aE2 rfl rfl) ?_;(refine (spec_l1Way.calls k1 t286 _ _ ([]:List ByteArray) false (⟨#[]⟩:ByteArray) (a0.extract (x6_1:Int).toNat a0.size) t287 t288 t291 t292 t293 _ ?side1 ?side2 A24.out).mono ?_);(case side1=>exact Kd.C_nil _ _);(case side2=>exact Nat.le_refl _);rintro e w26 ⟨v289,rfl,ho0,hb⟩;refine ⟨_,rfl,?_⟩;have n0_:=Am (Kd.R_lower ho0 (bU (by repeat (first|(with_reducible first|exact HB.out|apply bA|apply bN|apply bD|refine bS ?_ GE277.out)|exact HB.out))));have n1_:=Am (blk_below (bB BK277.out) hb);have n2_:=Am (bT (by repeat (first|(with_reducible first|exact HB.out|apply bA|apply bN|apply bD|refine bS ?_ GE277.out)|exact HB.out)) hb);clear BK277 HB;have HO290:=n0_;have BK277:=n1_;have HB:=n2_;clear n0_ n1_ n2_;(try clear hb);(try clear ho0);have hcz27_0:w26.cell? ⟨gb277,0,none⟩ = some (.string (⟨#[]⟩:ByteArray)):=bM BK277.out 0 rfl;have hcz27_1:w26.cell? ⟨gb277,1,none⟩ = some (.slice none 0 0):=bM BK277.out 1 rfl;have hcz27_2:w26.cell? ⟨gb277,2,none⟩ = some (.bool false):=bM BK277.out 2 rfl;have hcz27_3:w26.cell? ⟨gb277,3,none⟩ = some (.string (⟨#[]⟩:ByteArray)):=bM BK277.out 3 rfl;have hfz27_0:=bZ BK277.out 0;have hfz27_1:=bZ BK277.out 1;have hfz27_2:=bZ BK277.out 2;have hfz27_3:=bZ BK277.out 3;obtain ⟨Ao28,co28,eo28⟩:=Kd.R_slice HO290.out;subst eo28))
        refine bodyPost_ret (results_ct rfl _ _ gb277 25 #[.string t287, .slice Ao28 t288.length co28, .bool t291, .string t292] (0,0) _ rfl (by refine bB ?_;apply bP;refine bB ?_;exact BK277.out) Tryd.underlying25 rfl (by kernel_rfl)) rfl ?_
        exact ⟨_,by first|rfl|(simp <;> rfl)|(simp [*] <;> rfl),by (with_reducible repeat (first|apply rA|apply rN|apply rD));exact Kd.R_mono (Kd.R_far (p:=⟨gb277,3,none⟩) (Kd.R_far (p:=⟨gb277,2,none⟩) (Kd.R_far (p:=⟨gb277,1,none⟩) (Kd.R_far (p:=⟨gb277,0,none⟩) (Kd.R_types HO290.out BK277.out (by decide)) (fun _ hk=>hk.2) (.string t287)) (fun _ hk=>hk.2) (.slice Ao28 t288.length co28)) (fun _ hk=>hk.2) (.bool t291)) (fun _ hk=>hk.2) (.string t292)) (fun _ hk=>trivial),by repeat (first|(with_reducible first|exact HB.out|apply bA|apply bN|apply bD|refine bS ?_ GE277.out)|exact HB.out)⟩
       ·rw [if_neg c20] at H
        exact absurd H (by simp)
      ·rw [if_neg c18] at H
       have c18b0:((bt a0 x6_1) == 63) = false:=beq_eq_false_iff_ne.mpr c18
       have c18b1:((bt a0 x6_1) != 63) = true:=bne_iff_ne.mpr c18
       have H':=Am H
       clear H
       have p5:0 ≤ (x6_1:Int):=oD (by assumption)
       have q5:x6_1 < (a0.size:Int):=oD (by assumption)
       have hx5:=bt_at a0 x6_1
       replace p5:=eq_true p5
       replace q5:=eq_true q5
       have p17:0 ≤ (x6_1:Int):=oD (by assumption)
       have q17:x6_1 < (a0.size:Int):=oD (by assumption)
       have hx17:=bt_at a0 x6_1
       replace p17:=eq_true p17
       replace q17:=eq_true q17
       go_wp2
       go_roundg k1
       case measure=>have:=HK1.out;omega
       case rel=>exact ⟨(x4_1),(x5_1),(wrap64 (x6_1 + 1)),(by first|rfl|(simp;done)|(simp only [i64_w,i32_w] <;> rfl)|(simp [*];done)|(simp [emp_bne,emp_beq];done)),(by first|rfl|(simp;done)|(simp only [i64_w,i32_w] <;> rfl)|(simp [*];done)|(simp [emp_bne,emp_beq];done)),(by first|rfl|(simp;done)|(simp only [i64_w,i32_w] <;> rfl)|(simp [*];done)|(simp [emp_bne,emp_beq];done)),H',⟨by have:=HK1.out;omega⟩,⟨by refine bB ?_;exact BK277.out⟩,⟨by repeat (first|(with_reducible first|exact HB.out|apply bA|apply bN|apply bD|refine bS ?_ GE277.out)|exact HB.out)⟩⟩
    ·rw [if_neg c4] at H
     exact absurd H (by simp)
   ·rw [if_neg c3] at H
    have c3b0:decide (x6_1 < (a0.size:Int)) = false:=decide_eq_false c3
    clear c3
    replace H:=bI H
    obtain ⟨t294,A290,H⟩:=H
    replace H:((spec_l1Way.f k1 t294 ([]:List ByteArray) false (⟨#[]⟩:ByteArray) x5_1).bind fun bt295=>(some (bt295.1,bt295.2.1,bt295.2.2.1,bt295.2.2.2.1,bt295.2.2.2.2))) = some (r1,r2,r3,r4,r5):=H
    have A29:=Am A290
    clear A290
    replace H:=bI H
    obtain ⟨⟨t295,t296,t299,t300,t301⟩,A300,H⟩:=H
    replace H:(some (t295,t296,t299,t300,t301)) = some (r1,r2,r3,r4,r5):=H
    have A30:=Am A300
    clear A300
    simp only [Option.some.injEq,Prod.mk.injEq] at H
    obtain ⟨rfl,rfl,rfl,rfl,rfl⟩:=H
    go_wp2_with (first|((with_reducible refine gate_callee (f:=58) rfl ?_);refine goesL_ (some 31) rfl rfl Tryd.func58 (by kernel_rfl) rfl #[.string x4_1] rfl (aE1 rfl) ?_;(with_reducible refine (spec_l1Small.calls x4_1 t294 _ A29.out).mono ?_);rintro e w31 ⟨rfl,hb⟩;refine ⟨_,rfl,?_⟩;have n0_:=Am (blk_below (bB BK277.out) hb);have n1_:=Am (bT (by repeat (first|(with_reducible first|exact HB.out|apply bA|apply bN|apply bD|refine bS ?_ GE277.out)|exact HB.out)) hb);clear BK277 HB;have BK277:=n0_;have HB:=n1_;clear n0_ n1_;(try clear hb))|((with_reducible refine gate_callee (f:=34) rfl ?_);refine goesL_ (some 34) rfl rfl Tryd.func34 (by kernel_rfl) rfl #[.agg #[.string t294, .slice none 0 0, .bool false, .string (⟨#[]⟩:ByteArray)], .string x5_1] rfl (aE2 rfl rfl) ?_;(refine (spec_l1Way.calls k1 t294 _ _ ([]:List ByteArray) false (⟨#[]⟩:ByteArray) x5_1 t295 t296 t299 t300 t301 _ ?side1 ?side2 A30.out).mono ?_);(case side1=>exact Kd.C_nil _ _);(case side2=>exact Nat.le_refl _);rintro e w32 ⟨v297,rfl,ho0,hb⟩;refine ⟨_,rfl,?_⟩;have n0_:=Am (Kd.R_lower ho0 (bU (by repeat (first|(with_reducible first|exact HB.out|apply bA|apply bN|apply bD|refine bS ?_ GE277.out)|exact HB.out))));have n1_:=Am (blk_below (bB BK277.out) hb);have n2_:=Am (bT (by repeat (first|(with_reducible first|exact HB.out|apply bA|apply bN|apply bD|refine bS ?_ GE277.out)|exact HB.out)) hb);clear BK277 HB;have HO298:=n0_;have BK277:=n1_;have HB:=n2_;clear n0_ n1_ n2_;(try clear hb);(try clear ho0);have hcz33_0:w32.cell? ⟨gb277,0,none⟩ = some (.string (⟨#[]⟩:ByteArray)):=bM BK277.out 0 rfl;have hcz33_1:w32.cell? ⟨gb277,1,none⟩ = some (.slice none 0 0):=bM BK277.out 1 rfl;have hcz33_2:w32.cell? ⟨gb277,2,none⟩ = some (.bool false):=bM BK277.out 2 rfl;have hcz33_3:w32.cell? ⟨gb277,3,none⟩ = some (.string (⟨#[]⟩:ByteArray)):=bM BK277.out 3 rfl;have hfz33_0:=bZ BK277.out 0;have hfz33_1:=bZ BK277.out 1;have hfz33_2:=bZ BK277.out 2;have hfz33_3:=bZ BK277.out 3;obtain ⟨Ao34,co34,eo34⟩:=Kd.R_slice HO298.out;subst eo34))
    refine bodyPost_ret (results_ct rfl _ _ gb277 25 #[.string t295, .slice Ao34 t296.length co34, .bool t299, .string t300] (0,0) _ rfl (by refine bB ?_;apply bP;refine bB ?_;exact BK277.out) Tryd.underlying25 rfl (by kernel_rfl)) rfl ?_
    exact ⟨_,by first|rfl|(simp <;> rfl)|(simp [*] <;> rfl),by (with_reducible repeat (first|apply rA|apply rN|apply rD));exact Kd.R_mono (Kd.R_far (p:=⟨gb277,3,none⟩) (Kd.R_far (p:=⟨gb277,2,none⟩) (Kd.R_far (p:=⟨gb277,1,none⟩) (Kd.R_far (p:=⟨gb277,0,none⟩) (Kd.R_types HO298.out BK277.out (by decide)) (fun _ hk=>hk.2) (.string t295)) (fun _ hk=>hk.2) (.slice Ao34 t296.length co34)) (fun _ hk=>hk.2) (.bool t299)) (fun _ hk=>hk.2) (.string t300)) (fun _ hk=>trivial),by repeat (first|(with_reducible first|exact HB.out|apply bA|apply bN|apply bD|refine bS ?_ GE277.out)|exact HB.out)⟩

def stringslite_Index.f (a0 a1:ByteArray):Option Int:=if a1.size = 1 then some (Go.Lib.indexByte a0.data.toList (a1.data.toList.headD 0)) else none
set_option maxHeartbeats 1000000 in
set_option maxRecDepth 100000 in
theorem stringslite_Index.byte (a0:ByteArray) (a1:Int) (w:World) :
  Calls Tryd.prog 92 #[.string a0, .int .u8 a1] w fun e w'=>e = .returned (.int .i64 (Go.Lib.indexByte a0.data.toList a1.toNat.toUInt8)) ∧ ∃ nd,w' = w.drewN nd:=by
 go_enter Tryd.func92,Tryd.ntmps92
 go_wp2
 rw [run_callFunc_extern Tryd.func104 (by kernel_rfl) (by kernel_rfl) (by kernel_rfl) (e:=Extern.BytealgIndexByte.indexByte) (by kernel_rfl),Go.Lib.run_indexByteString]
 simp only [Result.andThen]
 rw [Oper.upon_value]
 go_wp2
 go_ret
 exact ⟨rfl,0,rfl⟩
set_option maxHeartbeats 1000000 in
set_option maxRecDepth 100000 in
theorem stringslite_Index.calls (a0 a1:ByteArray) (r:Int) (w:World) (h:stringslite_Index.f a0 a1 = some r) :
  Calls Tryd.prog 80 #[.string a0, .string a1] w fun e w'=>e = .returned (.int .i64 r) ∧ ∃ nd,w' = w.drewN nd:=by
 unfold stringslite_Index.f at h
 split at h
 rotate_left
 ·cases h
 rename_i hs
 obtain rfl:=Option.some.inj h
 clear h
 have HH:=Am (show ∀ h:0 < a1.size,(a1[0]'h) = a1.data.toList.headD 0 by
  obtain ⟨c,rfl⟩:=Go.Lib.one_byte a1 hs
  intro _;rfl)
 have HZ:=Am (show a1.toList = a0.toList → Go.Lib.indexByte a0.data.toList (a1.data.toList.headD 0) = 0 by
  intro e
  obtain ⟨c,rfl⟩:=Go.Lib.one_byte a1 hs
  rw [Go.ByteArray.toList_eq,Go.ByteArray.toList_eq] at e
  rw [← e]
  simp [Go.Lib.indexByte])
 have h0:(((a1.size:Nat):Int) == 0) = false:=by rw [hs];rfl
 have h1:(((a1.size:Nat):Int) == 1) = true:=by rw [hs];rfl
 have hlt:0 < a1.size:=by omega
 generalize hx:a1.data.toList.headD 0 = x at HH HZ ⊢
 clear hs hx
 by_cases e:a1.toList = a0.toList
 ·have hb:(a1.toList == a0.toList) = true:=beq_iff_eq.mpr e
  have HR:=Am (HZ.out e)
  clear e HZ HH
  go_enter Tryd.func80,Tryd.ntmps80
  go_wp2
  go_ret
  exact ⟨congrArg (fun n=>Ending.returned (Value.int IntKind.i64 n)) HR.out.symm,0,rfl⟩
 ·have hb:(a1.toList == a0.toList) = false:=beq_eq_false_iff_ne.mpr e
  clear e HZ
  go_enter Tryd.func80,Tryd.ntmps80
  go_wp2_with (go_at_call 92;refine (stringslite_Index.byte _ _ _).mono ?_;rintro e w' ⟨rfl,nd,rfl⟩)
  go_ret
  exact ⟨by rw [← HH.out hlt];simp,_,rfl⟩

def stringslite_Cut.f (a0:ByteArray) (a1:ByteArray):Option (ByteArray × ByteArray × Bool):=(stringslite_Index.f a0 a1).bind fun t313=>(if t313 ≥ 0 then (if 0 ≤ t313 then (if t313 ≤ (a0.size:Int) then (if 0 ≤ (wrap64 (t313 + (a1.size:Int))) then (if (wrap64 (t313 + (a1.size:Int))) ≤ (a0.size:Int) then (some (a0.extract 0 (t313:Int).toNat,a0.extract ((wrap64 (t313 + (a1.size:Int))):Int).toNat a0.size,true)) else (none)) else (none)) else (none)) else (none)) else (some (a0,(⟨#[]⟩:ByteArray),false)))
theorem stringslite_Cut.calls (a0:ByteArray) (a1:ByteArray) (r1:ByteArray) (r2:ByteArray) (r3:Bool) (w:World) (h:stringslite_Cut.f a0 a1 = some (r1,r2,r3)) :
  Calls Tryd.prog 62 #[.string a0, .string a1] w fun e w'=>e = .returned (.tuple #[.string r1, .string r2, .bool r3]) ∧ Drawn0 w w':=by
 have H:((stringslite_Index.f a0 a1).bind fun t313=>(if t313 ≥ 0 then (if 0 ≤ t313 then (if t313 ≤ (a0.size:Int) then (if 0 ≤ (wrap64 (t313 + (a1.size:Int))) then (if (wrap64 (t313 + (a1.size:Int))) ≤ (a0.size:Int) then (some (a0.extract 0 (t313:Int).toNat,a0.extract ((wrap64 (t313 + (a1.size:Int))):Int).toNat a0.size,true)) else (none)) else (none)) else (none)) else (none)) else (some (a0,(⟨#[]⟩:ByteArray),false)))) = some (r1,r2,r3):=h
 clear h
 replace H:=bI H
 obtain ⟨t313,A30,H⟩:=H
 replace H:(if t313 ≥ 0 then (if 0 ≤ t313 then (if t313 ≤ (a0.size:Int) then (if 0 ≤ (wrap64 (t313 + (a1.size:Int))) then (if (wrap64 (t313 + (a1.size:Int))) ≤ (a0.size:Int) then (some (a0.extract 0 (t313:Int).toNat,a0.extract ((wrap64 (t313 + (a1.size:Int))):Int).toNat a0.size,true)) else (none)) else (none)) else (none)) else (none)) else (some (a0,(⟨#[]⟩:ByteArray),false))) = some (r1,r2,r3):=H
 have A3:=Am A30
 clear A30
 by_cases c4:t313 ≥ 0
 ·rw [if_pos c4] at H
  have c4b0:decide (0 ≤ t313) = true:=decide_eq_true c4
  clear c4
  by_cases c5:0 ≤ t313
  ·rw [if_pos c5] at H
   have c5b0:=eq_true c5
   have c5b1:=decide_eq_true c5
   clear c5
   by_cases c6:t313 ≤ (a0.size:Int)
   ·rw [if_pos c6] at H
    have c6b0:=eq_true c6
    have c6b1:=decide_eq_true c6
    clear c6
    obtain ⟨ji7,hji7⟩:∃ j_:Int,(wrap64 (t313 + (a1.size:Int))) = j_:=⟨_,rfl⟩
    replace H:(if 0 ≤ (ji7) then (if (ji7) ≤ (a0.size:Int) then (some (a0.extract 0 (t313:Int).toNat,a0.extract ((ji7):Int).toNat a0.size,true)) else (none)) else (none)) = some (r1,r2,r3):=by first|(rw [hji7] at H;exact H)|(simp only [hji7] at H ⊢;exact H)
    (try rw [hji7] at A3)
    have hji7w:(IntKind.i64.wrap (t313 + (a1.size:Int))) = ji7:=(i64_w _).trans hji7
    by_cases c8:0 ≤ (ji7)
    ·rw [if_pos c8] at H
     have c8b0:=eq_true c8
     have c8b1:=decide_eq_true c8
     clear c8
     by_cases c9:(ji7) ≤ (a0.size:Int)
     ·rw [if_pos c9] at H
      have c9b0:=eq_true c9
      have c9b1:=decide_eq_true c9
      clear c9
      simp only [Option.some.injEq,Prod.mk.injEq] at H
      obtain ⟨rfl,rfl,rfl⟩:=H
      go_enter Tryd.func62,Tryd.ntmps62
      go_wp2_with (first|(go_at_call 80;(with_reducible refine (stringslite_Index.calls a0 a1 t313 _ A3.out).mono ?_);rintro e w' ⟨rfl,⟨nd,rfl⟩⟩;(try first|exact ⟨rfl,_,World.drewN_drewN _ _ _⟩|exact ⟨rfl,_,Eq.trans (World.drewN_drewN _ _ _) (congrArg (World.drewN _) (Nat.add_assoc _ _ _))⟩)))
      repeat (go_quiet (first|(go_at_call 80;(with_reducible refine (stringslite_Index.calls a0 a1 t313 _ A3.out).mono ?_);rintro e w' ⟨rfl,⟨nd,rfl⟩⟩;(try first|exact ⟨rfl,_,World.drewN_drewN _ _ _⟩|exact ⟨rfl,_,Eq.trans (World.drewN_drewN _ _ _) (congrArg (World.drewN _) (Nat.add_assoc _ _ _))⟩)));try go_wp2_with (first|(go_at_call 80;(with_reducible refine (stringslite_Index.calls a0 a1 t313 _ A3.out).mono ?_);rintro e w' ⟨rfl,⟨nd,rfl⟩⟩;(try first|exact ⟨rfl,_,World.drewN_drewN _ _ _⟩|exact ⟨rfl,_,Eq.trans (World.drewN_drewN _ _ _) (congrArg (World.drewN _) (Nat.add_assoc _ _ _))⟩))))
      go_ret3
      exact ⟨by first|rfl|(simp only [i64_w,i32_w] <;> rfl)|(simp;done)|(simp only [← hji7] <;> (first|rfl|simp))|(simp [*];done),by repeat (first|exact Drawn0.refl _|apply Drawn0.step)⟩
     ·rw [if_neg c9] at H
      exact absurd H (by simp)
    ·rw [if_neg c8] at H
     exact absurd H (by simp)
   ·rw [if_neg c6] at H
    exact absurd H (by simp)
  ·rw [if_neg c5] at H
   exact absurd H (by simp)
 ·rw [if_neg c4] at H
  have c4b0:decide (0 ≤ t313) = false:=decide_eq_false c4
  clear c4
  simp only [Option.some.injEq,Prod.mk.injEq] at H
  obtain ⟨rfl,rfl,rfl⟩:=H
  go_enter Tryd.func62,Tryd.ntmps62
  go_wp2_with (first|(go_at_call 80;(with_reducible refine (stringslite_Index.calls a0 a1 t313 _ A3.out).mono ?_);rintro e w' ⟨rfl,⟨nd,rfl⟩⟩;(try first|exact ⟨rfl,_,World.drewN_drewN _ _ _⟩|exact ⟨rfl,_,Eq.trans (World.drewN_drewN _ _ _) (congrArg (World.drewN _) (Nat.add_assoc _ _ _))⟩)))
  repeat (go_quiet (first|(go_at_call 80;(with_reducible refine (stringslite_Index.calls a0 a1 t313 _ A3.out).mono ?_);rintro e w' ⟨rfl,⟨nd,rfl⟩⟩;(try first|exact ⟨rfl,_,World.drewN_drewN _ _ _⟩|exact ⟨rfl,_,Eq.trans (World.drewN_drewN _ _ _) (congrArg (World.drewN _) (Nat.add_assoc _ _ _))⟩)));try go_wp2_with (first|(go_at_call 80;(with_reducible refine (stringslite_Index.calls a0 a1 t313 _ A3.out).mono ?_);rintro e w' ⟨rfl,⟨nd,rfl⟩⟩;(try first|exact ⟨rfl,_,World.drewN_drewN _ _ _⟩|exact ⟨rfl,_,Eq.trans (World.drewN_drewN _ _ _) (congrArg (World.drewN _) (Nat.add_assoc _ _ _))⟩))))
  go_ret3
  exact ⟨by first|rfl|(simp;done)|(simp only [i64_w,i32_w] <;> rfl)|(simp [*];done)|(simp [emp_bne,emp_beq];done),by repeat (first|exact Drawn0.refl _|apply Drawn0.step)⟩

def strings_Cut.f (a0:ByteArray) (a1:ByteArray):Option (ByteArray × ByteArray × Bool):=(stringslite_Cut.f a0 a1).bind fun bt314=>(some (bt314.1,bt314.2.1,bt314.2.2))
theorem strings_Cut.calls (a0:ByteArray) (a1:ByteArray) (r1:ByteArray) (r2:ByteArray) (r3:Bool) (w:World) (h:strings_Cut.f a0 a1 = some (r1,r2,r3)) :
  Calls Tryd.prog 36 #[.string a0, .string a1] w fun e w'=>e = .returned (.tuple #[.string r1, .string r2, .bool r3]) ∧ Drawn0 w w':=by
 have H:((stringslite_Cut.f a0 a1).bind fun bt314=>(some (bt314.1,bt314.2.1,bt314.2.2))) = some (r1,r2,r3):=h
 clear h
 replace H:=bI H
 obtain ⟨⟨t314,t315,t316⟩,A30,H⟩:=H
 replace H:(some (t314,t315,t316)) = some (r1,r2,r3):=H
 have A3:=Am A30
 clear A30
 simp only [Option.some.injEq,Prod.mk.injEq] at H
 obtain ⟨rfl,rfl,rfl⟩:=H
 go_enter Tryd.func36,Tryd.ntmps36
 go_wp2_with (first|((with_reducible refine gate_callee (f:=62) rfl ?_);refine goesL_ (some 9) rfl rfl Tryd.func62 (by kernel_rfl) rfl #[.string a0, .string a1] rfl (aE2 rfl rfl) ?_;(with_reducible refine (stringslite_Cut.calls a0 a1 t314 t315 t316 _ A3.out).mono ?_);rintro e w' ⟨rfl,⟨nd,rfl⟩⟩;refine ⟨_,rfl,?_⟩))
 go_ret3
 exact ⟨by first|rfl|(simp;done)|(simp only [i64_w,i32_w] <;> rfl)|(simp [*];done)|(simp [emp_bne,emp_beq];done),by repeat (first|exact Drawn0.refl _|apply Drawn0.step)⟩

def strings_Join.f (l0:List ByteArray) (a1:ByteArray):Option ByteArray :=
 if l0.length ≤ 140737488355328 ∧ (Go.Lib.join (l0.map (·.data.toList)) a1.data.toList).length ≤ 140737488355328 then some ⟨(Go.Lib.join (l0.map (·.data.toList)) a1.data.toList).toArray⟩ else none
theorem strings_Join.plain {w:World} {ad:Addr} {j:Nat} {v:Value} (h:w.cell? (ad.add j) = some v) (h0:∃ u,w.cell? (ad.add 0) = some u):w.cell? ⟨ad.block,ad.off + j,none⟩ = some v ∧ ad.spot = none:=by
 have hs:ad.spot = none:=by
  obtain ⟨u,hu⟩:=h0
  unfold World.cell? at hu
  split at hu
  ·split at hu
   ·cases hu
   ·rename_i hn
    unfold Addr.add at hn
    simpa using hn
  ·cases hu
 refine ⟨?_,hs⟩
 rw [← h]
 congr 1
 unfold Addr.add
 split
 ·rename_i hj;subst hj;cases ad;simp_all
 ·rfl
theorem strings_Join.calls (A0:Option Addr) (c0:Nat) (l0:List ByteArray) (a1:ByteArray) (r:ByteArray) (w:World) (hr0:Kd.C Kd.string w A0 l0.length l0) (hc0:l0.length ≤ c0) (h:strings_Join.f l0 a1 = some r) :
  Calls Tryd.prog 72 #[.slice A0 l0.length c0, .string a1] w fun e w'=>e = .returned (.string r) ∧ Below w.heap.size w w':=by
 unfold strings_Join.f at h
 split at h
 rotate_left
 ·cases h
 rename_i hb
 obtain rfl:=Option.some.inj h
 cases l0 with
 | nil=>exact (Tryd.strings_Join_none A0 c0 a1 w).mono fun e w' ⟨he,hw⟩=>⟨by rw [he];rfl,hw ▸ Below.refl _ _⟩
 | cons x l =>
  obtain ⟨ad,rfl,hc⟩:=hr0.2.2 (by simp)
  have hcell:∀ (j:Nat) y,(x :: l)[j]? = some y → w.cell? (ad.add j) = some (.string y):=fun j y hy=>by
   obtain ⟨c,_,hK,hcc⟩:=hc j y hy
   have hK':c = [.string y]:=hK
   subst hK'
   have:=hcc 0 _ rfl
   rwa [show j * Kd.string.sz + 0 = j by show j * 1 + 0 = j;omega] at this
  have h0:∃ u,w.cell? (ad.add 0) = some u:=⟨_,hcell 0 x rfl⟩
  have hp:=fun (j:Nat) y (hy:(x :: l)[j]? = some y)=>(strings_Join.plain (hcell j y hy) h0).1
  have hs:=(strings_Join.plain (hcell 0 x rfl) h0).2
  have hbk:ad.block < w.heap.size:=World.block_lt_of_cell? w ⟨ad.block,ad.off + 0,none⟩ (hp 0 x rfl)
  have hl:(x :: l).length ≤ 140737488355328:=hb.1
  have:=Tryd.strings_Join ad.block ad.off c0 (x :: l) a1 w hp hbk hl hc0 hb.2
  rw [show (⟨ad.block,ad.off,none⟩:Addr) = ad by cases ad;simp_all] at this
  exact this

def impl_writePath.f (a0_0:ByteArray) (l0_1:List ByteArray) (a0_2:Bool) (a0_3:ByteArray):Option (ByteArray):=(strings_Join.f l0_1 (⟨#[47]⟩:ByteArray)).bind fun t318=>(if 1 + t318.size ≤ 9223372036854775807 then (if a0_2 = true then (if 1 + a0_3.size ≤ 9223372036854775807 then (if ((⟨#[47]⟩:ByteArray) ++ t318).size + ((⟨#[63]⟩:ByteArray) ++ a0_3).size ≤ 9223372036854775807 then (some (((⟨#[47]⟩:ByteArray) ++ t318) ++ ((⟨#[63]⟩:ByteArray) ++ a0_3))) else (none)) else (none)) else (some ((⟨#[47]⟩:ByteArray) ++ t318))) else (none))
theorem impl_writePath.calls (a0_0:ByteArray) (A0_1:Option Addr) (c0_1:Nat) (l0_1:List ByteArray) (a0_2:Bool) (a0_3:ByteArray) (r:ByteArray) (w:World) (hr0_1:Kd.C Kd.string w A0_1 l0_1.length l0_1) (hc0_1:l0_1.length ≤ c0_1) (h:impl_writePath.f a0_0 l0_1 a0_2 a0_3 = some r) :
  Calls Tryd.prog 45 #[.agg #[.string a0_0, .slice A0_1 l0_1.length c0_1, .bool a0_2, .string a0_3]] w fun e w'=>e = .returned (.string r) ∧ Below w.heap.size w w':=by
 have hu25:=Tryd.underlying25
 have HR0_1:=Am hr0_1
 have HC0_1:=Am hc0_1
 clear hr0_1 hc0_1
 have HB:=Am (Below.refl w.heap.size w)
 have H:((strings_Join.f l0_1 (⟨#[47]⟩:ByteArray)).bind fun t318=>(if 1 + t318.size ≤ 9223372036854775807 then (if a0_2 = true then (if 1 + a0_3.size ≤ 9223372036854775807 then (if ((⟨#[47]⟩:ByteArray) ++ t318).size + ((⟨#[63]⟩:ByteArray) ++ a0_3).size ≤ 9223372036854775807 then (some (((⟨#[47]⟩:ByteArray) ++ t318) ++ ((⟨#[63]⟩:ByteArray) ++ a0_3))) else (none)) else (none)) else (some ((⟨#[47]⟩:ByteArray) ++ t318))) else (none))) = some r:=h
 clear h
 replace H:=bI H
 obtain ⟨t318,A20,H⟩:=H
 replace H:(if 1 + t318.size ≤ 9223372036854775807 then (if a0_2 = true then (if 1 + a0_3.size ≤ 9223372036854775807 then (if ((⟨#[47]⟩:ByteArray) ++ t318).size + ((⟨#[63]⟩:ByteArray) ++ a0_3).size ≤ 9223372036854775807 then (some (((⟨#[47]⟩:ByteArray) ++ t318) ++ ((⟨#[63]⟩:ByteArray) ++ a0_3))) else (none)) else (none)) else (some ((⟨#[47]⟩:ByteArray) ++ t318))) else (none)) = some r:=H
 have A2:=Am A20
 clear A20
 by_cases c3:1 + t318.size ≤ 9223372036854775807
 ·rw [if_pos c3] at H
  have c3b0:=eq_true c3
  have c3b1:=decide_eq_true c3
  try have c3b2:(9223372036854775807 < 1 + t318.size) = False:=eq_false (Nat.not_lt.2 c3)
  by_cases c4:a0_2 = true
  ·subst c4
   have H1:(if 1 + a0_3.size ≤ 9223372036854775807 then (if ((⟨#[47]⟩:ByteArray) ++ t318).size + ((⟨#[63]⟩:ByteArray) ++ a0_3).size ≤ 9223372036854775807 then (some (((⟨#[47]⟩:ByteArray) ++ t318) ++ ((⟨#[63]⟩:ByteArray) ++ a0_3))) else (none)) else (none)) = some r:=by rw [if_pos rfl] at H;exact H
   clear H
   have H:=H1
   clear H1
   by_cases c5:1 + a0_3.size ≤ 9223372036854775807
   ·rw [if_pos c5] at H
    have c5b0:=eq_true c5
    have c5b1:=decide_eq_true c5
    try have c5b2:(9223372036854775807 < 1 + a0_3.size) = False:=eq_false (Nat.not_lt.2 c5)
    by_cases c6:((⟨#[47]⟩:ByteArray) ++ t318).size + ((⟨#[63]⟩:ByteArray) ++ a0_3).size ≤ 9223372036854775807
    ·rw [if_pos c6] at H
     have c6b0:=eq_true c6
     have c6b1:=decide_eq_true c6
     try have c6b3:(9223372036854775807 < 1 + t318.size + 1 + a0_3.size) = False:=eq_false (Nat.not_lt.2 (by have h_:=c6;simp only [ByteArray.size_append] at h_;exact h_))
     try have c6b2:(9223372036854775807 < ((⟨#[47]⟩:ByteArray) ++ t318).size + ((⟨#[63]⟩:ByteArray) ++ a0_3).size) = False:=eq_false (Nat.not_lt.2 c6)
     obtain rfl:=Option.some.inj H
     go_enter Tryd.func45,Tryd.ntmps45
     go_wp2_with (first|((with_reducible refine gate_dst (N:=1) rfl ?_);refine box_event ?hg (N:=1) ?hd (cs:=#[.string a0_0, .slice A0_1 l0_1.length c0_1, .bool true, .string a0_3]) (t:=25) ?hr ?_;(case hd=>rfl);(case hg=>rfl);(case hr=>(go_simp <;> rfl));intro gb317 hg w7 hbox hb;have n0_:=Am (bT (by repeat (first|(with_reducible first|exact HB.out|apply bA|apply bN|apply bD)|exact HB.out)) hb);have n1_:=Am (hbox);have n2_:=Am ((by rw [hg];exact (bU (by repeat (first|(with_reducible first|exact HB.out|apply bA|apply bN|apply bD)|exact HB.out))):w.heap.size ≤ gb317));have n3_:=n2_;clear HB;have HB:=n0_;have BK317:=n1_;have GW317:=n2_;have GE317:=n3_;clear n0_ n1_ n2_ n3_ hb hbox hg;have hcz8_0:w7.cell? ⟨gb317,0,none⟩ = some (.string a0_0):=bM BK317.out 0 rfl;have hcz8_1:w7.cell? ⟨gb317,1,none⟩ = some (.slice A0_1 l0_1.length c0_1):=bM BK317.out 1 rfl;have hcz8_2:w7.cell? ⟨gb317,2,none⟩ = some (.bool true):=bM BK317.out 2 rfl;have hcz8_3:w7.cell? ⟨gb317,3,none⟩ = some (.string a0_3):=bM BK317.out 3 rfl;have hfz8_0:=bZ BK317.out 0;have hfz8_1:=bZ BK317.out 1;have hfz8_2:=bZ BK317.out 2;have hfz8_3:=bZ BK317.out 3)|((with_reducible refine gate_callee (f:=72) rfl ?_);refine goesL_ (some 6) rfl rfl Tryd.func72 (by kernel_rfl) rfl #[.slice A0_1 l0_1.length c0_1, .string (⟨#[47]⟩:ByteArray)] rfl (aE2 rfl rfl) ?_;(with_reducible refine (strings_Join.calls _ _ l0_1 (⟨#[47]⟩:ByteArray) t318 _ ?side1 ?side2 A2.out).mono ?_);(case side1=>repeat (first|exact (Kd.C_below HR0_1.out HB.out)|(with_reducible refine bC ?_)));(case side2=>exact HC0_1.out);rintro e w9 ⟨rfl,hb⟩;refine ⟨_,rfl,?_⟩;have n0_:=Am (blk_below (bB BK317.out) hb);have n1_:=Am (bT (by repeat (first|(with_reducible first|exact HB.out|apply bA|apply bN|apply bD|refine bS ?_ GE317.out)|exact HB.out)) hb);clear BK317 HB;have BK317:=n0_;have HB:=n1_;clear n0_ n1_;(try clear hb);have hcz10_0:w9.cell? ⟨gb317,0,none⟩ = some (.string a0_0):=bM BK317.out 0 rfl;have hcz10_1:w9.cell? ⟨gb317,1,none⟩ = some (.slice A0_1 l0_1.length c0_1):=bM BK317.out 1 rfl;have hcz10_2:w9.cell? ⟨gb317,2,none⟩ = some (.bool true):=bM BK317.out 2 rfl;have hcz10_3:w9.cell? ⟨gb317,3,none⟩ = some (.string a0_3):=bM BK317.out 3 rfl;have hfz10_0:=bZ BK317.out 0;have hfz10_1:=bZ BK317.out 1;have hfz10_2:=bZ BK317.out 2;have hfz10_3:=bZ BK317.out 3))
     go_ret
     exact ⟨by first|rfl|(simp <;> rfl)|(simp [*] <;> rfl),by repeat (first|(with_reducible first|exact HB.out|apply bA|apply bN|apply bD|refine bS ?_ GE317.out)|exact HB.out)⟩
    ·rw [if_neg c6] at H
     exact absurd H (by simp)
   ·rw [if_neg c5] at H
    exact absurd H (by simp)
  ·replace c4:=Bool.eq_false_iff.mpr c4
   subst c4
   have H1:(some ((⟨#[47]⟩:ByteArray) ++ t318)) = some r:=by rw [if_neg (show ¬ (false = true) by decide)] at H;exact H
   clear H
   have H:=H1
   clear H1
   obtain rfl:=Option.some.inj H
   go_enter Tryd.func45,Tryd.ntmps45
   go_wp2_with (first|((with_reducible refine gate_dst (N:=1) rfl ?_);refine box_event ?hg (N:=1) ?hd (cs:=#[.string a0_0, .slice A0_1 l0_1.length c0_1, .bool false, .string a0_3]) (t:=25) ?hr ?_;(case hd=>rfl);(case hg=>rfl);(case hr=>(go_simp <;> rfl));intro gb317 hg w11 hbox hb;have n0_:=Am (bT (by repeat (first|(with_reducible first|exact HB.out|apply bA|apply bN|apply bD)|exact HB.out)) hb);have n1_:=Am (hbox);have n2_:=Am ((by rw [hg];exact (bU (by repeat (first|(with_reducible first|exact HB.out|apply bA|apply bN|apply bD)|exact HB.out))):w.heap.size ≤ gb317));have n3_:=n2_;clear HB;have HB:=n0_;have BK317:=n1_;have GW317:=n2_;have GE317:=n3_;clear n0_ n1_ n2_ n3_ hb hbox hg;have hcz12_0:w11.cell? ⟨gb317,0,none⟩ = some (.string a0_0):=bM BK317.out 0 rfl;have hcz12_1:w11.cell? ⟨gb317,1,none⟩ = some (.slice A0_1 l0_1.length c0_1):=bM BK317.out 1 rfl;have hcz12_2:w11.cell? ⟨gb317,2,none⟩ = some (.bool false):=bM BK317.out 2 rfl;have hcz12_3:w11.cell? ⟨gb317,3,none⟩ = some (.string a0_3):=bM BK317.out 3 rfl;have hfz12_0:=bZ BK317.out 0;have hfz12_1:=bZ BK317.out 1;have hfz12_2:=bZ BK317.out 2;have hfz12_3:=bZ BK317.out 3)|((with_reducible refine gate_callee (f:=72) rfl ?_);refine goesL_ (some 6) rfl rfl Tryd.func72 (by kernel_rfl) rfl #[.slice A0_1 l0_1.length c0_1, .string (⟨#[47]⟩:ByteArray)] rfl (aE2 rfl rfl) ?_;(with_reducible refine (strings_Join.calls _ _ l0_1 (⟨#[47]⟩:ByteArray) t318 _ ?side1 ?side2 A2.out).mono ?_);(case side1=>repeat (first|exact (Kd.C_below HR0_1.out HB.out)|(with_reducible refine bC ?_)));(case side2=>exact HC0_1.out);rintro e w13 ⟨rfl,hb⟩;refine ⟨_,rfl,?_⟩;have n0_:=Am (blk_below (bB BK317.out) hb);have n1_:=Am (bT (by repeat (first|(with_reducible first|exact HB.out|apply bA|apply bN|apply bD|refine bS ?_ GE317.out)|exact HB.out)) hb);clear BK317 HB;have BK317:=n0_;have HB:=n1_;clear n0_ n1_;(try clear hb);have hcz14_0:w13.cell? ⟨gb317,0,none⟩ = some (.string a0_0):=bM BK317.out 0 rfl;have hcz14_1:w13.cell? ⟨gb317,1,none⟩ = some (.slice A0_1 l0_1.length c0_1):=bM BK317.out 1 rfl;have hcz14_2:w13.cell? ⟨gb317,2,none⟩ = some (.bool false):=bM BK317.out 2 rfl;have hcz14_3:w13.cell? ⟨gb317,3,none⟩ = some (.string a0_3):=bM BK317.out 3 rfl;have hfz14_0:=bZ BK317.out 0;have hfz14_1:=bZ BK317.out 1;have hfz14_2:=bZ BK317.out 2;have hfz14_3:=bZ BK317.out 3))
   go_ret
   exact ⟨by first|rfl|(simp <;> rfl)|(simp [*] <;> rfl),by repeat (first|(with_reducible first|exact HB.out|apply bA|apply bN|apply bD|refine bS ?_ GE317.out)|exact HB.out)⟩
 ·rw [if_neg c3] at H
  exact absurd H (by simp)

def impl_writeAddr.f (a0_0:ByteArray) (l0_1:List ByteArray) (a0_2:Bool) (a0_3:ByteArray):Option (ByteArray):=if 2 + a0_0.size ≤ 9223372036854775807 then ((impl_writePath.f a0_0 l0_1 a0_2 a0_3).bind fun t320=>(if ((⟨#[47,47]⟩:ByteArray) ++ a0_0).size + t320.size ≤ 9223372036854775807 then (some (((⟨#[47,47]⟩:ByteArray) ++ a0_0) ++ t320)) else (none))) else (none)
theorem impl_writeAddr.calls (a0_0:ByteArray) (A0_1:Option Addr) (c0_1:Nat) (l0_1:List ByteArray) (a0_2:Bool) (a0_3:ByteArray) (r:ByteArray) (w:World) (hr0_1:Kd.C Kd.string w A0_1 l0_1.length l0_1) (hc0_1:l0_1.length ≤ c0_1) (h:impl_writeAddr.f a0_0 l0_1 a0_2 a0_3 = some r) :
  Calls Tryd.prog 46 #[.agg #[.string a0_0, .slice A0_1 l0_1.length c0_1, .bool a0_2, .string a0_3]] w fun e w'=>e = .returned (.string r) ∧ Below w.heap.size w w':=by
 have hu25:=Tryd.underlying25
 have HR0_1:=Am hr0_1
 have HC0_1:=Am hc0_1
 clear hr0_1 hc0_1
 have HB:=Am (Below.refl w.heap.size w)
 have H:(if 2 + a0_0.size ≤ 9223372036854775807 then ((impl_writePath.f a0_0 l0_1 a0_2 a0_3).bind fun t320=>(if ((⟨#[47,47]⟩:ByteArray) ++ a0_0).size + t320.size ≤ 9223372036854775807 then (some (((⟨#[47,47]⟩:ByteArray) ++ a0_0) ++ t320)) else (none))) else (none)) = some r:=h
 clear h
 by_cases c2:2 + a0_0.size ≤ 9223372036854775807
 ·rw [if_pos c2] at H
  have c2b0:=eq_true c2
  have c2b1:=decide_eq_true c2
  try have c2b2:(9223372036854775807 < 2 + a0_0.size) = False:=eq_false (Nat.not_lt.2 c2)
  replace H:=bI H
  obtain ⟨t320,A30,H⟩:=H
  replace H:(if ((⟨#[47,47]⟩:ByteArray) ++ a0_0).size + t320.size ≤ 9223372036854775807 then (some (((⟨#[47,47]⟩:ByteArray) ++ a0_0) ++ t320)) else (none)) = some r:=H
  have A3:=Am A30
  clear A30
  by_cases c4:((⟨#[47,47]⟩:ByteArray) ++ a0_0).size + t320.size ≤ 9223372036854775807
  ·rw [if_pos c4] at H
   have c4b0:=eq_true c4
   have c4b1:=decide_eq_true c4
   try have c4b3:(9223372036854775807 < 2 + a0_0.size + t320.size) = False:=eq_false (Nat.not_lt.2 (by have h_:=c4;simp only [ByteArray.size_append] at h_;exact h_))
   try have c4b2:(9223372036854775807 < ((⟨#[47,47]⟩:ByteArray) ++ a0_0).size + t320.size) = False:=eq_false (Nat.not_lt.2 c4)
   obtain rfl:=Option.some.inj H
   go_enter Tryd.func46,Tryd.ntmps46
   try go_wp2_with (first|((with_reducible refine gate_dst (N:=1) rfl ?_);refine box_event ?hg (N:=1) ?hd (cs:=#[.string a0_0, .slice A0_1 l0_1.length c0_1, .bool a0_2, .string a0_3]) (t:=25) ?hr ?_;(case hd=>rfl);(case hg=>rfl);(case hr=>(go_simp <;> rfl));intro gb319 hg w5 hbox hb;have n0_:=Am (bT (by repeat (first|(with_reducible first|exact HB.out|apply bA|apply bN|apply bD)|exact HB.out)) hb);have n1_:=Am (hbox);have n2_:=Am ((by rw [hg];exact (bU (by repeat (first|(with_reducible first|exact HB.out|apply bA|apply bN|apply bD)|exact HB.out))):w.heap.size ≤ gb319));have n3_:=n2_;clear HB;have HB:=n0_;have BK319:=n1_;have GW319:=n2_;have GE319:=n3_;clear n0_ n1_ n2_ n3_ hb hbox hg))
   have n0_:=Am (blk_drew BK319.out)
   have n1_:=Am (below_drew1 HB.out)
   clear BK319
   clear HB
   have BK319:=n0_
   have HB:=n1_
   clear n0_ n1_
   refine start_ (n:=7) (S:=fun w'=>w'.cell? ⟨gb319,0,none⟩ = some (.string a0_0) ∧ w'.cell? ⟨gb319,1,none⟩ = some (.slice A0_1 l0_1.length c0_1) ∧ w'.cell? ⟨gb319,2,none⟩ = some (.bool a0_2) ∧ w'.cell? ⟨gb319,3,none⟩ = some (.string a0_3)) (ds:=[]) #[false,false,false,false,false,false,false] (by kernel_rfl) rfl rfl ⟨bM BK319.out 0 rfl,bM BK319.out 1 rfl,bM BK319.out 2 rfl,bM BK319.out 3 rfl⟩ (fun hHeld=>?_)
   generalize w5.drew = w6 at BK319 HB hHeld ⊢
   refine pure_ (i:=0) (N:=some 3) (v:=?_) (a':=?_) #[true,false,false,false,false,false,false] rfl rfl (by kernel_rfl) (fun _ _ _ h=>h) (Or.inl ⟨by rfl,?_⟩) ?_ ?_
   rotate_left
   ·intro w'
    go_simp
    with_reducible rfl
   rotate_left
   ·simp only [Act.put,List.setIfInBounds_toArray,List.set_cons_zero,List.set_cons_succ,i64_w,i32_w]
    rfl
   refine take_ (i:=1) (N:=some 4) (v:=?_) (a':=?_) #[true,true,false,false,false,false,false] rfl rfl (by kernel_rfl) (fun _ _ _ h=>h) (Or.inl ⟨by rfl,?_⟩) hHeld ?_ ?_
   rotate_left
   ·rintro w' ⟨s0,s1,s2,s3⟩
    go_simp
    with_reducible rfl
   rotate_left
   ·simp only [Act.put,List.setIfInBounds_toArray,List.set_cons_zero,List.set_cons_succ,i64_w,i32_w]
    rfl
   refine pure_ (i:=2) (N:=some 5) (v:=?_) (a':=?_) #[true,true,true,false,false,false,false] rfl rfl (by kernel_rfl) (fun _ _ _ h=>h) (Or.inl ⟨by rfl,?_⟩) ?_ ?_
   rotate_left
   ·intro w'
    go_simp
    with_reducible rfl
   rotate_left
   ·simp only [Act.put,List.setIfInBounds_toArray,List.set_cons_zero,List.set_cons_succ,i64_w,i32_w]
    rfl
   refine take_ (i:=3) (N:=some 6) (v:=?_) (a':=?_) #[true,true,true,true,false,false,false] rfl rfl (by kernel_rfl) (fun _ _ _ h=>h) (Or.inl ⟨by rfl,?_⟩) hHeld ?_ ?_
   rotate_left
   ·rintro w' ⟨s0,s1,s2,s3⟩
    go_simp
    with_reducible rfl
   rotate_left
   ·simp only [Act.put,List.setIfInBounds_toArray,List.set_cons_zero,List.set_cons_succ,i64_w,i32_w]
    rfl
   refine one_ (i:=4) (N:=some 7) #[true,true,true,true,true,false,false] rfl rfl (by kernel_rfl) (by decide) (fun K hK=>?_)
   refine goes_ Tryd.func45 (by kernel_rfl) rfl #[.agg #[.string a0_0, .slice A0_1 l0_1.length c0_1, .bool a0_2, .string a0_3]] (by rfl) rfl rfl (by (try simp only [List.map_toArray,List.map_cons,List.map_nil]);first|done|rfl|(simp only [List.length_drop,List.length_take];rfl)) ?_
   with_reducible refine (impl_writePath.calls a0_0 _ _ l0_1 a0_2 a0_3 t320 _ ?side1 ?side2 A3.out).mono ?_
   (case side1=>repeat (first|exact (Kd.C_below HR0_1.out HB.out)|(with_reducible refine bC ?_)))
   (case side2=>exact HC0_1.out)
   rintro e w7 ⟨rfl,hb⟩
   refine ⟨_,rfl,?_⟩
   have n0_:=Am (blk_below (bB BK319.out) hb)
   have n1_:=Am (bT (by repeat (first|(with_reducible first|exact HB.out|apply bA|apply bN|apply bD|refine bS ?_ GE319.out)|exact HB.out)) hb)
   clear BK319
   clear HB
   have BK319:=n0_
   have HB:=n1_
   clear n0_ n1_
   (try clear hb)
   (try clear hb2)
   (try clear hk)
   (try clear hi)
   refine hK.out _ _ ⟨bM BK319.out 0 rfl,bM BK319.out 1 rfl,bM BK319.out 2 rfl,bM BK319.out 3 rfl⟩ (fun hHeld=>?_)
   clear hK K
   refine norm_ (a':=?_) ?_ ?_
   rotate_left
   ·show Act.put _ (some 7) _ = _
    simp only [Act.put,List.setIfInBounds_toArray,List.set_cons_zero,List.set_cons_succ,i64_w,i32_w]
    rfl
   refine pure_ (i:=5) (N:=some 8) (v:=?_) (a':=?_) #[true,true,true,true,true,true,false] rfl rfl (by kernel_rfl) (fun _ _ _ h=>h) (Or.inl ⟨by rfl,?_⟩) ?_ ?_
   rotate_left
   ·intro w'
    go_simp
    with_reducible rfl
   rotate_left
   ·simp only [Act.put,List.setIfInBounds_toArray,List.set_cons_zero,List.set_cons_succ,i64_w,i32_w]
    rfl
   refine pure_ (i:=6) (N:=some 2) (v:=?_) (a':=?_) #[true,true,true,true,true,true,true] rfl rfl (by kernel_rfl) (fun _ _ _ h=>h) (Or.inl ⟨by rfl,?_⟩) ?_ ?_
   rotate_left
   ·intro w'
    go_simp
    with_reducible rfl
   rotate_left
   ·simp only [Act.put,List.setIfInBounds_toArray,List.set_cons_zero,List.set_cons_succ,i64_w,i32_w]
    rfl
   refine done_ (by kernel_rfl) ?_
   try go_wp2
   go_ret
   exact ⟨by first|rfl|(simp <;> rfl)|(simp [*] <;> rfl),by repeat (first|(with_reducible first|exact HB.out|apply bA|apply bN|apply bD|refine bS ?_ GE319.out)|exact HB.out)⟩
  ·rw [if_neg c4] at H
   exact absurd H (by simp)
 ·rw [if_neg c2] at H
  exact absurd H (by simp)

def impl_allSmallLetters.l0:Nat → ByteArray → Int → Option (Bool)
 | 0,_,_=>none
 | k + 1,x0,x3=>if x3 < (x0.size:Int) then (if 0 ≤ x3 then (if (bt x0 x3) < 97 then (some false) else (if (bt x0 x3) > 122 then (some false) else (impl_allSmallLetters.l0 k x0 (wrap64 (x3 + 1))))) else (none)) else (some true)
def impl_allSmallLetters.f (k:Nat) (a0:ByteArray):Option (Bool):=impl_allSmallLetters.l0 k a0 0
theorem impl_allSmallLetters.mono_l:∀ k,(∀ y0 y1,LeO (impl_allSmallLetters.l0 k y0 y1) (impl_allSmallLetters.l0 (k + 1) y0 y1))
 | 0=>fun _ _ r h=>by simp [impl_allSmallLetters.l0] at h
 | k + 1=>by
  have ih0:=impl_allSmallLetters.mono_l k
  ·intro y0 y1
   unfold impl_allSmallLetters.l0
   repeat' first
   | (with_reducible apply ih0)
   | (with_reducible exact LeO.refl _)
   | (with_reducible exact LeO.none _)
   | (with_reducible refine LeO.ite ?_ ?_)
   | (with_reducible refine LeO.bind ?_ (fun _=>?_))
   | exact ih0 _ _
   | exact LeO.none _
   | refine LeO.ite ?_ ?_
   | refine LeO.bind ?_ (fun _=>?_)
theorem impl_allSmallLetters.mono:∀ a0 k,LeO (impl_allSmallLetters.f k a0) (impl_allSmallLetters.f (k + 1) a0):=by
 intro a0 k
 have ih0:=impl_allSmallLetters.mono_l k
 unfold impl_allSmallLetters.f
 repeat' first
   | (with_reducible apply ih0)
   | (with_reducible exact LeO.refl _)
   | (with_reducible exact LeO.none _)
   | (with_reducible refine LeO.ite ?_ ?_)
   | (with_reducible refine LeO.bind ?_ (fun _=>?_))
   | exact ih0 _ _
   | exact LeO.none _
   | refine LeO.ite ?_ ?_
   | refine LeO.bind ?_ (fun _=>?_)
theorem impl_allSmallLetters.calls (k:Nat) (a0:ByteArray) (r:Bool) (w:World) (h:impl_allSmallLetters.f k a0 = some r) :
  Calls Tryd.prog 74 #[.string a0] w fun e w'=>e = .returned (.bool r) ∧ Drawn0 w w':=by
 have H:(impl_allSmallLetters.l0 k a0 0) = some r:=h
 clear h
 have H':=Am H
 clear H
 go_enter Tryd.func74,Tryd.ntmps74
 go_wp2
 go_loopg [3] k (fun kq v3 w'=>∃ (x3_1:Int),v3 = .int .i64 x3_1 ∧ Aside0 (impl_allSmallLetters.l0 kq a0 x3_1 = some r) ∧ Aside0 (kq ≤ k) ∧ Drawn0 w w')
 case atStart=>exact ⟨(0),(by first|rfl|(simp;done)|(simp only [i64_w,i32_w] <;> rfl)|(simp [*];done)|(simp [emp_bne,emp_beq];done)),H',⟨Nat.le_refl _⟩,by repeat (first|exact Drawn0.refl _|apply Drawn0.step)⟩
 case round =>
  clear H'
  obtain ⟨x3_1,rfl,HA,HK1,⟨m1,rfl⟩⟩:=hrel
  cases gk with
  | zero=>exact absurd HA.out (by simp [impl_allSmallLetters.l0])
  | succ k1 =>
   have H:=HA.out
   clear HA
   simp only [impl_allSmallLetters.l0] at H
   by_cases c2:x3_1 < (a0.size:Int)
   ·rw [if_pos c2] at H
    have c2b0:decide (x3_1 < (a0.size:Int)) = true:=decide_eq_true c2
    clear c2
    by_cases c3:0 ≤ x3_1
    ·rw [if_pos c3] at H
     have c3b0:decide (0 ≤ x3_1) = true:=decide_eq_true c3
     clear c3
     by_cases c5:(bt a0 x3_1) < 97
     ·rw [if_pos c5] at H
      have c5b0:decide ((bt a0 x3_1) < 97) = true:=decide_eq_true c5
      clear c5
      obtain rfl:=Option.some.inj H
      have p4:0 ≤ (x3_1:Int):=oD (by assumption)
      have q4:x3_1 < (a0.size:Int):=oD (by assumption)
      have hx4:=bt_at a0 x3_1
      replace p4:=eq_true p4
      replace q4:=eq_true q4
      go_wp2
      go_ret
      exact ⟨by first|rfl|(simp;done)|(simp only [i64_w,i32_w] <;> rfl)|(simp [*];done)|(simp [emp_bne,emp_beq];done),by repeat (first|exact Drawn0.refl _|apply Drawn0.step)⟩
     ·rw [if_neg c5] at H
      have c5b0:decide ((bt a0 x3_1) < 97) = false:=decide_eq_false c5
      clear c5
      by_cases c7:(bt a0 x3_1) > 122
      ·rw [if_pos c7] at H
       have c7b0:decide (122 < (bt a0 x3_1)) = true:=decide_eq_true c7
       clear c7
       obtain rfl:=Option.some.inj H
       have p4:0 ≤ (x3_1:Int):=oD (by assumption)
       have q4:x3_1 < (a0.size:Int):=oD (by assumption)
       have hx4:=bt_at a0 x3_1
       replace p4:=eq_true p4
       replace q4:=eq_true q4
       have p6:0 ≤ (x3_1:Int):=oD (by assumption)
       have q6:x3_1 < (a0.size:Int):=oD (by assumption)
       have hx6:=bt_at a0 x3_1
       replace p6:=eq_true p6
       replace q6:=eq_true q6
       go_wp2
       go_ret
       exact ⟨by first|rfl|(simp;done)|(simp only [i64_w,i32_w] <;> rfl)|(simp [*];done)|(simp [emp_bne,emp_beq];done),by repeat (first|exact Drawn0.refl _|apply Drawn0.step)⟩
      ·rw [if_neg c7] at H
       have c7b0:decide (122 < (bt a0 x3_1)) = false:=decide_eq_false c7
       clear c7
       have H':=Am H
       clear H
       have p4:0 ≤ (x3_1:Int):=oD (by assumption)
       have q4:x3_1 < (a0.size:Int):=oD (by assumption)
       have hx4:=bt_at a0 x3_1
       replace p4:=eq_true p4
       replace q4:=eq_true q4
       have p6:0 ≤ (x3_1:Int):=oD (by assumption)
       have q6:x3_1 < (a0.size:Int):=oD (by assumption)
       have hx6:=bt_at a0 x3_1
       replace p6:=eq_true p6
       replace q6:=eq_true q6
       go_wp2
       go_roundg k1
       case measure=>have:=HK1.out;omega
       case rel=>exact ⟨(wrap64 (x3_1 + 1)),(by first|rfl|(simp;done)|(simp only [i64_w,i32_w] <;> rfl)|(simp [*];done)|(simp [emp_bne,emp_beq];done)),H',⟨by have:=HK1.out;omega⟩,by repeat (first|exact Drawn0.refl _|apply Drawn0.step)⟩
    ·rw [if_neg c3] at H
     exact absurd H (by simp)
   ·rw [if_neg c2] at H
    have c2b0:decide (x3_1 < (a0.size:Int)) = false:=decide_eq_false c2
    clear c2
    obtain rfl:=Option.some.inj H
    go_wp2
    go_ret
    exact ⟨by first|rfl|(simp;done)|(simp only [i64_w,i32_w] <;> rfl)|(simp [*];done)|(simp [emp_bne,emp_beq];done),by repeat (first|exact Drawn0.refl _|apply Drawn0.step)⟩

def impl_isHouse.f (k:Nat) (a0:ByteArray):Option (Bool):=if (a0.size:Int) ≥ 1 then (if (a0.size:Int) ≤ 5 then ((impl_allSmallLetters.f k a0).bind fun t321=>(some t321)) else (some false)) else (some false)
theorem impl_isHouse.mono:∀ a0 k,LeO (impl_isHouse.f k a0) (impl_isHouse.f (k + 1) a0):=by
 intro a0 k
 unfold impl_isHouse.f
 repeat' first
   | (with_reducible apply impl_allSmallLetters.mono)
   | (with_reducible exact LeO.refl _)
   | (with_reducible exact LeO.none _)
   | (with_reducible refine LeO.ite ?_ ?_)
   | (with_reducible refine LeO.bind ?_ (fun _=>?_))
   | exact impl_allSmallLetters.mono _ _
   | exact LeO.none _
   | refine LeO.ite ?_ ?_
   | refine LeO.bind ?_ (fun _=>?_)
theorem impl_isHouse.calls (k:Nat) (a0:ByteArray) (r:Bool) (w:World) (h:impl_isHouse.f k a0 = some r) :
  Calls Tryd.prog 55 #[.string a0] w fun e w'=>e = .returned (.bool r) ∧ Drawn0 w w':=by
 have H:(if (a0.size:Int) ≥ 1 then (if (a0.size:Int) ≤ 5 then ((impl_allSmallLetters.f k a0).bind fun t321=>(some t321)) else (some false)) else (some false)) = some r:=h
 clear h
 by_cases c2:(a0.size:Int) ≥ 1
 ·rw [if_pos c2] at H
  have c2b0:decide (1 ≤ (a0.size:Int)) = true:=decide_eq_true c2
  have c2b1:decide (1 ≤ a0.size) = true:=decide_eq_true (by omega)
  clear c2
  by_cases c3:(a0.size:Int) ≤ 5
  ·rw [if_pos c3] at H
   have c3b0:decide ((a0.size:Int) ≤ 5) = true:=decide_eq_true c3
   have c3b1:decide (a0.size ≤ 5) = true:=decide_eq_true (by omega)
   clear c3
   replace H:=bI H
   obtain ⟨t321,A40,H⟩:=H
   replace H:(some t321) = some r:=H
   have A4:=Am A40
   clear A40
   obtain rfl:=Option.some.inj H
   go_enter Tryd.func55,Tryd.ntmps55
   go_wp2_with (first|(go_at_call 74;(with_reducible refine (impl_allSmallLetters.calls k a0 t321 _ A4.out).mono ?_);rintro e w' ⟨rfl,⟨nd,rfl⟩⟩))
   go_ret
   exact ⟨by first|rfl|(simp;done)|(simp only [i64_w,i32_w] <;> rfl)|(simp [*];done)|(simp [emp_bne,emp_beq];done),by repeat (first|exact Drawn0.refl _|apply Drawn0.step)⟩
  ·rw [if_neg c3] at H
   have c3b0:decide ((a0.size:Int) ≤ 5) = false:=decide_eq_false c3
   have c3b1:decide (a0.size ≤ 5) = false:=decide_eq_false (by omega)
   clear c3
   obtain rfl:=Option.some.inj H
   go_enter Tryd.func55,Tryd.ntmps55
   go_wp2
   go_ret
   exact ⟨by first|rfl|(simp;done)|(simp only [i64_w,i32_w] <;> rfl)|(simp [*];done)|(simp [emp_bne,emp_beq];done),by repeat (first|exact Drawn0.refl _|apply Drawn0.step)⟩
 ·rw [if_neg c2] at H
  have c2b0:decide (1 ≤ (a0.size:Int)) = false:=decide_eq_false c2
  have c2b1:decide (1 ≤ a0.size) = false:=decide_eq_false (by omega)
  clear c2
  obtain rfl:=Option.some.inj H
  go_enter Tryd.func55,Tryd.ntmps55
  go_wp2
  go_ret
  exact ⟨by first|rfl|(simp;done)|(simp only [i64_w,i32_w] <;> rfl)|(simp [*];done)|(simp [emp_bne,emp_beq];done),by repeat (first|exact Drawn0.refl _|apply Drawn0.step)⟩

def impl_figureValue.f (a0:Int):Option (Int × Bool) :=
 if 0 ≤ a0 ∧ a0 ≤ 255 then some (if 48 ≤ a0 ∧ a0 ≤ 57 then (a0 - 48,true) else if 65 ≤ a0 ∧ a0 ≤ 70 then (a0 - 55,true) else if 97 ≤ a0 ∧ a0 ≤ 102 then (a0 - 87,true) else (0,false)) else none
def impl_figureValue.hex:ByteArray:=⟨#[48,49,50,51,52,53,54,55,56,57,65,66,67,68,69,70]⟩
def impl_figureValue.fig (p:Nat):Nat:=if p < 10 then 48 + p else 55 + p
theorem impl_figureValue.decode (p:Nat) (h:p < 16):Utf8.decode impl_figureValue.hex p = (impl_figureValue.fig p,1):=by
 have hc:p = 0 ∨ p = 1 ∨ p = 2 ∨ p = 3 ∨ p = 4 ∨ p = 5 ∨ p = 6 ∨ p = 7 ∨ p = 8 ∨ p = 9 ∨ p = 10 ∨ p = 11 ∨ p = 12 ∨ p = 13 ∨ p = 14 ∨ p = 15:=by omega
 rcases hc with rfl|rfl|rfl|rfl|rfl|rfl|rfl|rfl|rfl|rfl|rfl|rfl|rfl|rfl|rfl|rfl <;> rfl
def impl_figureValue.up (a0:Int):Int:=if 97 ≤ a0 ∧ a0 ≤ 102 then a0 - 32 else a0
theorem impl_figureValue.hit {a0:Int} {p:Nat} (h0:0 ≤ a0) (h1:a0 ≤ 255) (hp:p < 16) (h:(impl_figureValue.fig p:Int) = impl_figureValue.up a0):impl_figureValue.f a0 = some ((p:Int),true):=by
 unfold impl_figureValue.f
 rw [if_pos ⟨h0,h1⟩]
 unfold impl_figureValue.fig impl_figureValue.up at h
 congr 1
 repeat' split at h
 all_goals repeat' split
 all_goals first|(simp only [Prod.mk.injEq,and_true];omega)|(exfalso;omega)
theorem impl_figureValue.miss {a0:Int} (h0:0 ≤ a0) (h1:a0 ≤ 255) (h:∀ p:Nat,p < 16 → (impl_figureValue.fig p:Int) ≠ impl_figureValue.up a0):impl_figureValue.f a0 = some (0,false):=by
 unfold impl_figureValue.f
 rw [if_pos ⟨h0,h1⟩]
 unfold impl_figureValue.fig impl_figureValue.up at h
 by_cases c1:48 ≤ a0 ∧ a0 ≤ 57
 ·exfalso
  have:=h (a0 - 48).toNat (by omega)
  rw [if_pos (by omega),if_neg (by omega)] at this;omega
 by_cases c2:65 ≤ a0 ∧ a0 ≤ 70
 ·exfalso
  have:=h (a0 - 55).toNat (by omega)
  rw [if_neg (by omega),if_neg (by omega)] at this;omega
 by_cases c3:97 ≤ a0 ∧ a0 ≤ 102
 ·exfalso
  have:=h (a0 - 87).toNat (by omega)
  rw [if_neg (by omega),if_pos c3] at this;omega
 rw [if_neg c1,if_neg c2,if_neg c3]
theorem impl_figureValue.fig_bd (p:Nat) (h:p < 16):48 ≤ impl_figureValue.fig p ∧ impl_figureValue.fig p ≤ 70:=by
 unfold impl_figureValue.fig;split <;> omega
def impl_figureValue.Missed (a0:Int) (n:Nat):Prop:=∀ p:Nat,p < n → (impl_figureValue.fig p:Int) ≠ impl_figureValue.up a0
theorem impl_figureValue.below (w:World) (p:Nat):Below w.heap.size w (w.iter impl_figureValue.hex p):=below_alloc (Below.refl _ _) _
theorem impl_figureValue.calls (a0:Int) (r1:Int) (r2:Bool) (w:World) (h:impl_figureValue.f a0 = some (r1,r2)) :
  Calls Tryd.prog 98 #[.int .u8 a0] w fun e w'=>e = .returned (.tuple #[.int .i64 r1, .bool r2]) ∧ Below w.heap.size w w':=by
 have hb:0 ≤ a0 ∧ a0 ≤ 255:=by
  unfold impl_figureValue.f at h
  split at h
  ·assumption
  ·cases h
 obtain ⟨h0,h1⟩:=hb
 have HH:=Am h
 clear h
 have HX:=Am (fun (p:Nat) (ty:TypeId) (hp:p < impl_figureValue.hex.size)=>run_next_any (P:=Tryd.prog) w impl_figureValue.hex p ty hp)
 have HE:=Am (fun (p:Nat) (ty:TypeId) (hp:¬ p < impl_figureValue.hex.size)=>run_next_end (P:=Tryd.prog) w impl_figureValue.hex p ty hp)
 by_cases c:97 ≤ a0 ∧ a0 ≤ 102
 ·obtain ⟨c1,c2⟩:=c
  have HU:=Am (show impl_figureValue.up a0 = a0 - 32 by unfold impl_figureValue.up;rw [if_pos ⟨c1,c2⟩])
  go_enter Tryd.func98,Tryd.ntmps98
  go_wp2
  go_loopw [] (fun w'=>∃ p:Nat,p ≤ 16 ∧ w' = w.iter impl_figureValue.hex p ∧ Aside0 (impl_figureValue.Missed a0 p)) (fun w'=>16 - w'.iterPos w.heap.size)
  case atStart=>exact ⟨0,Nat.zero_le _,rfl,⟨fun p hp=>absurd hp (by omega)⟩⟩
  case round =>
   obtain ⟨p,hp,rfl,HM⟩:=hrel
   by_cases hlt:p < 16
   ·have hx:∀ ty,(Instr.next (.pointer (some ⟨w.heap.size,0,none⟩)) true ty).run Tryd.prog (w.iter impl_figureValue.hex p) = .ok (.tuple #[.bool true, .int .i64 p, .int .i32 (impl_figureValue.fig p)]) (w.iter impl_figureValue.hex (p + 1)):=fun ty=>by
     rw [HX.out p ty hlt,impl_figureValue.decode p hlt]
    have hf:=impl_figureValue.fig_bd p hlt
    by_cases he:(impl_figureValue.fig p:Int) = a0 - 32
    ·have hr:=HH.out
     rw [impl_figureValue.hit h0 h1 hlt (he.trans HU.out.symm)] at hr
     obtain ⟨rfl,rfl⟩:=Prod.mk.inj (Option.some.inj hr)
     have hd:((impl_figureValue.fig p:Int) == a0 - 32) = true:=beq_iff_eq.mpr he
     clear he hr
     go_wp2
     go_ret2
     exact ⟨rfl,impl_figureValue.below w _⟩
    ·have hd:((impl_figureValue.fig p:Int) == a0 - 32) = false:=beq_eq_false_iff_ne.mpr he
     have HM2:=Am (show impl_figureValue.Missed a0 (p + 1) from fun q hq=>by
      rcases Nat.lt_or_ge q p with hqp|hqp
      ·exact HM.out q hqp
      ·obtain rfl:q = p:=by omega
       rw [HU.out];exact he)
     clear he
     go_wp2
     go_roundw
     case rel=>exact ⟨p + 1,by omega,rfl,HM2⟩
     case measure=>simp;omega
   ·obtain rfl:p = 16:=by omega
    have hx:=fun ty=>HE.out 16 ty (by decide)
    have hr:=HH.out
    rw [impl_figureValue.miss h0 h1 HM.out] at hr
    obtain ⟨rfl,rfl⟩:=Prod.mk.inj (Option.some.inj hr)
    clear hr
    go_wp2
    go_ret2
    exact ⟨rfl,impl_figureValue.below w _⟩
 by_cases c1:97 ≤ a0
 ·have c2:decide (a0 ≤ 102) = false:=decide_eq_false (fun h=>c ⟨c1,h⟩)
  have HU:=Am (show impl_figureValue.up a0 = a0 by unfold impl_figureValue.up;rw [if_neg c])
  clear c
  go_enter Tryd.func98,Tryd.ntmps98
  go_wp2
  go_loopw [] (fun w'=>∃ p:Nat,p ≤ 16 ∧ w' = w.iter impl_figureValue.hex p ∧ Aside0 (impl_figureValue.Missed a0 p)) (fun w'=>16 - w'.iterPos w.heap.size)
  case atStart=>exact ⟨0,Nat.zero_le _,rfl,⟨fun p hp=>absurd hp (by omega)⟩⟩
  case round =>
   obtain ⟨p,hp,rfl,HM⟩:=hrel
   by_cases hlt:p < 16
   ·have hx:∀ ty,(Instr.next (.pointer (some ⟨w.heap.size,0,none⟩)) true ty).run Tryd.prog (w.iter impl_figureValue.hex p) = .ok (.tuple #[.bool true, .int .i64 p, .int .i32 (impl_figureValue.fig p)]) (w.iter impl_figureValue.hex (p + 1)):=fun ty=>by
     rw [HX.out p ty hlt,impl_figureValue.decode p hlt]
    have hf:=impl_figureValue.fig_bd p hlt
    by_cases he:(impl_figureValue.fig p:Int) = a0
    ·have hr:=HH.out
     rw [impl_figureValue.hit h0 h1 hlt (he.trans HU.out.symm)] at hr
     obtain ⟨rfl,rfl⟩:=Prod.mk.inj (Option.some.inj hr)
     have hd:((impl_figureValue.fig p:Int) == a0) = true:=beq_iff_eq.mpr he
     clear he hr
     go_wp2
     go_ret2
     exact ⟨rfl,impl_figureValue.below w _⟩
    ·have hd:((impl_figureValue.fig p:Int) == a0) = false:=beq_eq_false_iff_ne.mpr he
     have HM2:=Am (show impl_figureValue.Missed a0 (p + 1) from fun q hq=>by
      rcases Nat.lt_or_ge q p with hqp|hqp
      ·exact HM.out q hqp
      ·obtain rfl:q = p:=by omega
       rw [HU.out];exact he)
     clear he
     go_wp2
     go_roundw
     case rel=>exact ⟨p + 1,by omega,rfl,HM2⟩
     case measure=>simp;omega
   ·obtain rfl:p = 16:=by omega
    have hx:=fun ty=>HE.out 16 ty (by decide)
    have hr:=HH.out
    rw [impl_figureValue.miss h0 h1 HM.out] at hr
    obtain ⟨rfl,rfl⟩:=Prod.mk.inj (Option.some.inj hr)
    clear hr
    go_wp2
    go_ret2
    exact ⟨rfl,impl_figureValue.below w _⟩
 ·have c2:decide (97 ≤ a0) = false:=decide_eq_false c1
  have HU:=Am (show impl_figureValue.up a0 = a0 by unfold impl_figureValue.up;rw [if_neg c])
  clear c c1
  go_enter Tryd.func98,Tryd.ntmps98
  go_wp2
  go_loopw [] (fun w'=>∃ p:Nat,p ≤ 16 ∧ w' = w.iter impl_figureValue.hex p ∧ Aside0 (impl_figureValue.Missed a0 p)) (fun w'=>16 - w'.iterPos w.heap.size)
  case atStart=>exact ⟨0,Nat.zero_le _,rfl,⟨fun p hp=>absurd hp (by omega)⟩⟩
  case round =>
   obtain ⟨p,hp,rfl,HM⟩:=hrel
   by_cases hlt:p < 16
   ·have hx:∀ ty,(Instr.next (.pointer (some ⟨w.heap.size,0,none⟩)) true ty).run Tryd.prog (w.iter impl_figureValue.hex p) = .ok (.tuple #[.bool true, .int .i64 p, .int .i32 (impl_figureValue.fig p)]) (w.iter impl_figureValue.hex (p + 1)):=fun ty=>by
     rw [HX.out p ty hlt,impl_figureValue.decode p hlt]
    have hf:=impl_figureValue.fig_bd p hlt
    by_cases he:(impl_figureValue.fig p:Int) = a0
    ·have hr:=HH.out
     rw [impl_figureValue.hit h0 h1 hlt (he.trans HU.out.symm)] at hr
     obtain ⟨rfl,rfl⟩:=Prod.mk.inj (Option.some.inj hr)
     have hd:((impl_figureValue.fig p:Int) == a0) = true:=beq_iff_eq.mpr he
     clear he hr
     go_wp2
     go_ret2
     exact ⟨rfl,impl_figureValue.below w _⟩
    ·have hd:((impl_figureValue.fig p:Int) == a0) = false:=beq_eq_false_iff_ne.mpr he
     have HM2:=Am (show impl_figureValue.Missed a0 (p + 1) from fun q hq=>by
      rcases Nat.lt_or_ge q p with hqp|hqp
      ·exact HM.out q hqp
      ·obtain rfl:q = p:=by omega
       rw [HU.out];exact he)
     clear he
     go_wp2
     go_roundw
     case rel=>exact ⟨p + 1,by omega,rfl,HM2⟩
     case measure=>simp;omega
   ·obtain rfl:p = 16:=by omega
    have hx:=fun ty=>HE.out 16 ty (by decide)
    have hr:=HH.out
    rw [impl_figureValue.miss h0 h1 HM.out] at hr
    obtain ⟨rfl,rfl⟩:=Prod.mk.inj (Option.some.inj hr)
    clear hr
    go_wp2
    go_ret2
    exact ⟨rfl,impl_figureValue.below w _⟩

def impl_signByte.f (a0:ByteArray) (a1:Int):Option (Int × Bool):=if (wrap64 ((a0.size:Int) - a1)) < 3 then (some (0,false)) else (if 0 ≤ (wrap64 (a1 + 1)) then (if (wrap64 (a1 + 1)) < (a0.size:Int) then ((impl_figureValue.f (bt a0 (wrap64 (a1 + 1)))).bind fun bt322=>(if 0 ≤ (wrap64 (a1 + 2)) then (if (wrap64 (a1 + 2)) < (a0.size:Int) then ((impl_figureValue.f (bt a0 (wrap64 (a1 + 2)))).bind fun bt324=>(if bt322.2 = true then (if bt324.2 = true then (some ((wrap64 ((wrap64 (bt322.1 * 16)) + bt324.1)) % 256,true)) else (some (0,false))) else (some (0,false)))) else (none)) else (none))) else (none)) else (none))
theorem impl_signByte.calls (a0:ByteArray) (a1:Int) (r1:Int) (r2:Bool) (w:World) (h:impl_signByte.f a0 a1 = some (r1,r2)) :
  Calls Tryd.prog 86 #[.string a0, .int .i64 a1] w fun e w'=>e = .returned (.tuple #[.int .u8 r1, .bool r2]) ∧ Below w.heap.size w w':=by
 have HB:=Am (Below.refl w.heap.size w)
 have H:(if (wrap64 ((a0.size:Int) - a1)) < 3 then (some (0,false)) else (if 0 ≤ (wrap64 (a1 + 1)) then (if (wrap64 (a1 + 1)) < (a0.size:Int) then ((impl_figureValue.f (bt a0 (wrap64 (a1 + 1)))).bind fun bt322=>(if 0 ≤ (wrap64 (a1 + 2)) then (if (wrap64 (a1 + 2)) < (a0.size:Int) then ((impl_figureValue.f (bt a0 (wrap64 (a1 + 2)))).bind fun bt324=>(if bt322.2 = true then (if bt324.2 = true then (some ((wrap64 ((wrap64 (bt322.1 * 16)) + bt324.1)) % 256,true)) else (some (0,false))) else (some (0,false)))) else (none)) else (none))) else (none)) else (none))) = some (r1,r2):=h
 clear h
 by_cases c3:(wrap64 ((a0.size:Int) - a1)) < 3
 ·rw [if_pos c3] at H
  have c3b0:decide ((wrap64 ((a0.size:Int) - a1)) < 3) = true:=decide_eq_true c3
  clear c3
  simp only [Option.some.injEq,Prod.mk.injEq] at H
  obtain ⟨rfl,rfl⟩:=H
  go_enter Tryd.func86,Tryd.ntmps86
  go_wp2
  go_ret2
  exact ⟨by first|rfl|(simp <;> rfl)|(simp [*] <;> rfl),by repeat (first|(with_reducible first|exact HB.out|apply bA|apply bN|apply bD)|exact HB.out)⟩
 ·rw [if_neg c3] at H
  have c3b0:decide ((wrap64 ((a0.size:Int) - a1)) < 3) = false:=decide_eq_false c3
  clear c3
  obtain ⟨ji4,hji4⟩:∃ j_:Int,(wrap64 (a1 + 1)) = j_:=⟨_,rfl⟩
  replace H:(if 0 ≤ (ji4) then (if (ji4) < (a0.size:Int) then ((impl_figureValue.f (bt a0 (ji4))).bind fun bt322=>(if 0 ≤ (wrap64 (a1 + 2)) then (if (wrap64 (a1 + 2)) < (a0.size:Int) then ((impl_figureValue.f (bt a0 (wrap64 (a1 + 2)))).bind fun bt324=>(if bt322.2 = true then (if bt324.2 = true then (some ((wrap64 ((wrap64 (bt322.1 * 16)) + bt324.1)) % 256,true)) else (some (0,false))) else (some (0,false)))) else (none)) else (none))) else (none)) else (none)) = some (r1,r2):=by first|(rw [hji4] at H;exact H)|(simp only [hji4] at H ⊢;exact H)
  have hji4w:(IntKind.i64.wrap (a1 + 1)) = ji4:=(i64_w _).trans hji4
  by_cases c5:0 ≤ (ji4)
  ·rw [if_pos c5] at H
   have c5b0:decide (0 ≤ (ji4)) = true:=decide_eq_true c5
   clear c5
   by_cases c6:(ji4) < (a0.size:Int)
   ·rw [if_pos c6] at H
    have c6b0:decide ((ji4) < (a0.size:Int)) = true:=decide_eq_true c6
    clear c6
    replace H:=bI H
    obtain ⟨⟨t322,t323⟩,A80,H⟩:=H
    replace H:(if 0 ≤ (wrap64 (a1 + 2)) then (if (wrap64 (a1 + 2)) < (a0.size:Int) then ((impl_figureValue.f (bt a0 (wrap64 (a1 + 2)))).bind fun bt324=>(if t323 = true then (if bt324.2 = true then (some ((wrap64 ((wrap64 (t322 * 16)) + bt324.1)) % 256,true)) else (some (0,false))) else (some (0,false)))) else (none)) else (none)) = some (r1,r2):=H
    have A8:=Am A80
    clear A80
    obtain ⟨ji9,hji9⟩:∃ j_:Int,(wrap64 (a1 + 2)) = j_:=⟨_,rfl⟩
    replace H:(if 0 ≤ (ji9) then (if (ji9) < (a0.size:Int) then ((impl_figureValue.f (bt a0 (ji9))).bind fun bt324=>(if t323 = true then (if bt324.2 = true then (some ((wrap64 ((wrap64 (t322 * 16)) + bt324.1)) % 256,true)) else (some (0,false))) else (some (0,false)))) else (none)) else (none)) = some (r1,r2):=by first|(rw [hji9] at H;exact H)|(simp only [hji9] at H ⊢;exact H)
    (try rw [hji9] at A8)
    have hji9w:(IntKind.i64.wrap (a1 + 2)) = ji9:=(i64_w _).trans hji9
    by_cases c10:0 ≤ (ji9)
    ·rw [if_pos c10] at H
     have c10b0:decide (0 ≤ (ji9)) = true:=decide_eq_true c10
     clear c10
     by_cases c11:(ji9) < (a0.size:Int)
     ·rw [if_pos c11] at H
      have c11b0:decide ((ji9) < (a0.size:Int)) = true:=decide_eq_true c11
      clear c11
      replace H:=bI H
      obtain ⟨⟨t324,t325⟩,A130,H⟩:=H
      replace H:(if t323 = true then (if t325 = true then (some ((wrap64 ((wrap64 (t322 * 16)) + t324)) % 256,true)) else (some (0,false))) else (some (0,false))) = some (r1,r2):=H
      have A13:=Am A130
      clear A130
      by_cases c14:t323 = true
      ·subst c14
       have H1:(if t325 = true then (some ((wrap64 ((wrap64 (t322 * 16)) + t324)) % 256,true)) else (some (0,false))) = some (r1,r2):=by rw [if_pos rfl] at H;exact H
       clear H
       have H:=H1
       clear H1
       by_cases c15:t325 = true
       ·subst c15
        have H1:(some ((wrap64 ((wrap64 (t322 * 16)) + t324)) % 256,true)) = some (r1,r2):=by rw [if_pos rfl] at H;exact H
        clear H
        have H:=H1
        clear H1
        simp only [Option.some.injEq,Prod.mk.injEq] at H
        obtain ⟨rfl,rfl⟩:=H
        have p7:0 ≤ ((ji4):Int):=oD (by assumption)
        have q7:(ji4) < (a0.size:Int):=oD (by assumption)
        have hx7:=bt_at a0 (ji4)
        replace p7:=eq_true p7
        replace q7:=eq_true q7
        go_enter Tryd.func86,Tryd.ntmps86
        go_wp2_with (first|((with_reducible refine gate_callee (f:=98) rfl ?_);refine goesL_ (some 20) rfl rfl Tryd.func98 (by kernel_rfl) rfl #[.int .u8 (bt a0 (ji4))] rfl (by (try simp only [List.map_toArray,List.map_cons,List.map_nil]);first|done|(simp only [hji4];rfl)|rfl|(simp only [Act.eval,Array.getD_eq_getD_getElem?,Option.getD_some, *];done)|(simp [Act.eval,Array.getD_eq_getD_getElem?, *];done)|(simp only [List.length_drop,List.length_take];rfl)) ?_;(with_reducible refine (impl_figureValue.calls (bt a0 (ji4)) t322 true _ A8.out).mono ?_);rintro e w16 ⟨rfl,hb⟩;refine ⟨_,rfl,?_⟩;have n0_:=Am (bT (by repeat (first|(with_reducible first|exact HB.out|apply bA|apply bN|apply bD)|exact HB.out)) hb);clear HB;have HB:=n0_;clear n0_;(try clear hb);have p12:0 ≤ ((ji9):Int):=oD (by assumption);have q12:(ji9) < (a0.size:Int):=oD (by assumption);have hx12:=bt_at a0 (ji9);replace p12:=eq_true p12;replace q12:=eq_true q12)|((with_reducible refine gate_callee (f:=98) rfl ?_);refine goesL_ (some 28) rfl rfl Tryd.func98 (by kernel_rfl) rfl #[.int .u8 (bt a0 (ji9))] rfl (by (try simp only [List.map_toArray,List.map_cons,List.map_nil]);first|done|(simp only [hji9];rfl)|rfl|(simp only [Act.eval,Array.getD_eq_getD_getElem?,Option.getD_some, *];done)|(simp [Act.eval,Array.getD_eq_getD_getElem?, *];done)|(simp only [List.length_drop,List.length_take];rfl)) ?_;(with_reducible refine (impl_figureValue.calls (bt a0 (ji9)) t324 true _ A13.out).mono ?_);rintro e w17 ⟨rfl,hb⟩;refine ⟨_,rfl,?_⟩;have n0_:=Am (bT (by repeat (first|(with_reducible first|exact HB.out|apply bA|apply bN|apply bD)|exact HB.out)) hb);clear HB;have HB:=n0_;clear n0_;(try clear hb)))
        go_ret2
        exact ⟨by first|rfl|(simp <;> rfl)|(simp only [← hji4,← hji9];first|rfl|(simp <;> rfl))|(simp [*] <;> rfl),by repeat (first|(with_reducible first|exact HB.out|apply bA|apply bN|apply bD)|exact HB.out)⟩
       ·replace c15:=Bool.eq_false_iff.mpr c15
        subst c15
        have H1:(some (0,false)) = some (r1,r2):=by rw [if_neg (show ¬ (false = true) by decide)] at H;exact H
        clear H
        have H:=H1
        clear H1
        simp only [Option.some.injEq,Prod.mk.injEq] at H
        obtain ⟨rfl,rfl⟩:=H
        have p7:0 ≤ ((ji4):Int):=oD (by assumption)
        have q7:(ji4) < (a0.size:Int):=oD (by assumption)
        have hx7:=bt_at a0 (ji4)
        replace p7:=eq_true p7
        replace q7:=eq_true q7
        go_enter Tryd.func86,Tryd.ntmps86
        go_wp2_with (first|((with_reducible refine gate_callee (f:=98) rfl ?_);refine goesL_ (some 20) rfl rfl Tryd.func98 (by kernel_rfl) rfl #[.int .u8 (bt a0 (ji4))] rfl (by (try simp only [List.map_toArray,List.map_cons,List.map_nil]);first|done|(simp only [hji4];rfl)|rfl|(simp only [Act.eval,Array.getD_eq_getD_getElem?,Option.getD_some, *];done)|(simp [Act.eval,Array.getD_eq_getD_getElem?, *];done)|(simp only [List.length_drop,List.length_take];rfl)) ?_;(with_reducible refine (impl_figureValue.calls (bt a0 (ji4)) t322 true _ A8.out).mono ?_);rintro e w18 ⟨rfl,hb⟩;refine ⟨_,rfl,?_⟩;have n0_:=Am (bT (by repeat (first|(with_reducible first|exact HB.out|apply bA|apply bN|apply bD)|exact HB.out)) hb);clear HB;have HB:=n0_;clear n0_;(try clear hb);have p12:0 ≤ ((ji9):Int):=oD (by assumption);have q12:(ji9) < (a0.size:Int):=oD (by assumption);have hx12:=bt_at a0 (ji9);replace p12:=eq_true p12;replace q12:=eq_true q12)|((with_reducible refine gate_callee (f:=98) rfl ?_);refine goesL_ (some 28) rfl rfl Tryd.func98 (by kernel_rfl) rfl #[.int .u8 (bt a0 (ji9))] rfl (by (try simp only [List.map_toArray,List.map_cons,List.map_nil]);first|done|(simp only [hji9];rfl)|rfl|(simp only [Act.eval,Array.getD_eq_getD_getElem?,Option.getD_some, *];done)|(simp [Act.eval,Array.getD_eq_getD_getElem?, *];done)|(simp only [List.length_drop,List.length_take];rfl)) ?_;(with_reducible refine (impl_figureValue.calls (bt a0 (ji9)) t324 false _ A13.out).mono ?_);rintro e w19 ⟨rfl,hb⟩;refine ⟨_,rfl,?_⟩;have n0_:=Am (bT (by repeat (first|(with_reducible first|exact HB.out|apply bA|apply bN|apply bD)|exact HB.out)) hb);clear HB;have HB:=n0_;clear n0_;(try clear hb)))
        go_ret2
        exact ⟨by first|rfl|(simp <;> rfl)|(simp only [← hji4,← hji9];first|rfl|(simp <;> rfl))|(simp [*] <;> rfl),by repeat (first|(with_reducible first|exact HB.out|apply bA|apply bN|apply bD)|exact HB.out)⟩
      ·replace c14:=Bool.eq_false_iff.mpr c14
       subst c14
       have H1:(some (0,false)) = some (r1,r2):=by rw [if_neg (show ¬ (false = true) by decide)] at H;exact H
       clear H
       have H:=H1
       clear H1
       simp only [Option.some.injEq,Prod.mk.injEq] at H
       obtain ⟨rfl,rfl⟩:=H
       have p7:0 ≤ ((ji4):Int):=oD (by assumption)
       have q7:(ji4) < (a0.size:Int):=oD (by assumption)
       have hx7:=bt_at a0 (ji4)
       replace p7:=eq_true p7
       replace q7:=eq_true q7
       go_enter Tryd.func86,Tryd.ntmps86
       go_wp2_with (first|((with_reducible refine gate_callee (f:=98) rfl ?_);refine goesL_ (some 20) rfl rfl Tryd.func98 (by kernel_rfl) rfl #[.int .u8 (bt a0 (ji4))] rfl (by (try simp only [List.map_toArray,List.map_cons,List.map_nil]);first|done|(simp only [hji4];rfl)|rfl|(simp only [Act.eval,Array.getD_eq_getD_getElem?,Option.getD_some, *];done)|(simp [Act.eval,Array.getD_eq_getD_getElem?, *];done)|(simp only [List.length_drop,List.length_take];rfl)) ?_;(with_reducible refine (impl_figureValue.calls (bt a0 (ji4)) t322 false _ A8.out).mono ?_);rintro e w20 ⟨rfl,hb⟩;refine ⟨_,rfl,?_⟩;have n0_:=Am (bT (by repeat (first|(with_reducible first|exact HB.out|apply bA|apply bN|apply bD)|exact HB.out)) hb);clear HB;have HB:=n0_;clear n0_;(try clear hb);have p12:0 ≤ ((ji9):Int):=oD (by assumption);have q12:(ji9) < (a0.size:Int):=oD (by assumption);have hx12:=bt_at a0 (ji9);replace p12:=eq_true p12;replace q12:=eq_true q12)|((with_reducible refine gate_callee (f:=98) rfl ?_);refine goesL_ (some 28) rfl rfl Tryd.func98 (by kernel_rfl) rfl #[.int .u8 (bt a0 (ji9))] rfl (by (try simp only [List.map_toArray,List.map_cons,List.map_nil]);first|done|(simp only [hji9];rfl)|rfl|(simp only [Act.eval,Array.getD_eq_getD_getElem?,Option.getD_some, *];done)|(simp [Act.eval,Array.getD_eq_getD_getElem?, *];done)|(simp only [List.length_drop,List.length_take];rfl)) ?_;(with_reducible refine (impl_figureValue.calls (bt a0 (ji9)) t324 t325 _ A13.out).mono ?_);rintro e w21 ⟨rfl,hb⟩;refine ⟨_,rfl,?_⟩;have n0_:=Am (bT (by repeat (first|(with_reducible first|exact HB.out|apply bA|apply bN|apply bD)|exact HB.out)) hb);clear HB;have HB:=n0_;clear n0_;(try clear hb)))
       go_ret2
       exact ⟨by first|rfl|(simp <;> rfl)|(simp only [← hji4,← hji9];first|rfl|(simp <;> rfl))|(simp [*] <;> rfl),by repeat (first|(with_reducible first|exact HB.out|apply bA|apply bN|apply bD)|exact HB.out)⟩
     ·rw [if_neg c11] at H
      exact absurd H (by simp)
    ·rw [if_neg c10] at H
     exact absurd H (by simp)
   ·rw [if_neg c6] at H
    exact absurd H (by simp)
  ·rw [if_neg c5] at H
   exact absurd H (by simp)

def impl_standsForItself.f (a0:Int):Option (Bool):=if a0 ≥ 97 then (if a0 ≤ 122 then (some true) else (if a0 ≥ 48 then (if a0 ≤ 57 then (some true) else (if a0 = 46 then (some true) else (some (a0 == 45)))) else (if a0 = 46 then (some true) else (some (a0 == 45))))) else (if a0 ≥ 48 then (if a0 ≤ 57 then (some true) else (if a0 = 46 then (some true) else (some (a0 == 45)))) else (if a0 = 46 then (some true) else (some (a0 == 45))))
theorem impl_standsForItself.calls (a0:Int) (r:Bool) (w:World) (h:impl_standsForItself.f a0 = some r) :
  Calls Tryd.prog 87 #[.int .u8 a0] w fun e w'=>e = .returned (.bool r) ∧ Drawn0 w w':=by
 have H:(if a0 ≥ 97 then (if a0 ≤ 122 then (some true) else (if a0 ≥ 48 then (if a0 ≤ 57 then (some true) else (if a0 = 46 then (some true) else (some (a0 == 45)))) else (if a0 = 46 then (some true) else (some (a0 == 45))))) else (if a0 ≥ 48 then (if a0 ≤ 57 then (some true) else (if a0 = 46 then (some true) else (some (a0 == 45)))) else (if a0 = 46 then (some true) else (some (a0 == 45))))) = some r:=h
 clear h
 by_cases c2:a0 ≥ 97
 ·rw [if_pos c2] at H
  have c2b0:decide (97 ≤ a0) = true:=decide_eq_true c2
  clear c2
  by_cases c3:a0 ≤ 122
  ·rw [if_pos c3] at H
   have c3b0:decide (a0 ≤ 122) = true:=decide_eq_true c3
   clear c3
   obtain rfl:=Option.some.inj H
   go_enter Tryd.func87,Tryd.ntmps87
   go_wp2
   go_ret
   exact ⟨by first|rfl|(simp;done)|(simp only [i64_w,i32_w] <;> rfl)|(simp [*];done)|(simp [emp_bne,emp_beq];done),by repeat (first|exact Drawn0.refl _|apply Drawn0.step)⟩
  ·rw [if_neg c3] at H
   have c3b0:decide (a0 ≤ 122) = false:=decide_eq_false c3
   clear c3
   by_cases c4:a0 ≥ 48
   ·rw [if_pos c4] at H
    have c4b0:decide (48 ≤ a0) = true:=decide_eq_true c4
    clear c4
    by_cases c5:a0 ≤ 57
    ·rw [if_pos c5] at H
     have c5b0:decide (a0 ≤ 57) = true:=decide_eq_true c5
     clear c5
     obtain rfl:=Option.some.inj H
     go_enter Tryd.func87,Tryd.ntmps87
     go_wp2
     go_ret
     exact ⟨by first|rfl|(simp;done)|(simp only [i64_w,i32_w] <;> rfl)|(simp [*];done)|(simp [emp_bne,emp_beq];done),by repeat (first|exact Drawn0.refl _|apply Drawn0.step)⟩
    ·rw [if_neg c5] at H
     have c5b0:decide (a0 ≤ 57) = false:=decide_eq_false c5
     clear c5
     by_cases c6:a0 = 46
     ·rw [if_pos c6] at H
      have c6b0:(a0 == 46) = true:=beq_iff_eq.mpr c6
      have c6b1:(a0 != 46) = false:=bne_eq_false_iff_eq.mpr c6
      clear c6
      obtain rfl:=Option.some.inj H
      go_enter Tryd.func87,Tryd.ntmps87
      go_wp2
      go_ret
      exact ⟨by first|rfl|(simp;done)|(simp only [i64_w,i32_w] <;> rfl)|(simp [*];done)|(simp [emp_bne,emp_beq];done),by repeat (first|exact Drawn0.refl _|apply Drawn0.step)⟩
     ·rw [if_neg c6] at H
      have c6b0:(a0 == 46) = false:=beq_eq_false_iff_ne.mpr c6
      have c6b1:(a0 != 46) = true:=bne_iff_ne.mpr c6
      obtain rfl:=Option.some.inj H
      go_enter Tryd.func87,Tryd.ntmps87
      go_wp2
      go_ret
      exact ⟨by first|rfl|(simp;done)|(simp only [i64_w,i32_w] <;> rfl)|(simp [*];done)|(simp [emp_bne,emp_beq];done),by repeat (first|exact Drawn0.refl _|apply Drawn0.step)⟩
   ·rw [if_neg c4] at H
    have c4b0:decide (48 ≤ a0) = false:=decide_eq_false c4
    clear c4
    by_cases c7:a0 = 46
    ·rw [if_pos c7] at H
     have c7b0:(a0 == 46) = true:=beq_iff_eq.mpr c7
     have c7b1:(a0 != 46) = false:=bne_eq_false_iff_eq.mpr c7
     clear c7
     obtain rfl:=Option.some.inj H
     go_enter Tryd.func87,Tryd.ntmps87
     go_wp2
     go_ret
     exact ⟨by first|rfl|(simp;done)|(simp only [i64_w,i32_w] <;> rfl)|(simp [*];done)|(simp [emp_bne,emp_beq];done),by repeat (first|exact Drawn0.refl _|apply Drawn0.step)⟩
    ·rw [if_neg c7] at H
     have c7b0:(a0 == 46) = false:=beq_eq_false_iff_ne.mpr c7
     have c7b1:(a0 != 46) = true:=bne_iff_ne.mpr c7
     obtain rfl:=Option.some.inj H
     go_enter Tryd.func87,Tryd.ntmps87
     go_wp2
     go_ret
     exact ⟨by first|rfl|(simp;done)|(simp only [i64_w,i32_w] <;> rfl)|(simp [*];done)|(simp [emp_bne,emp_beq];done),by repeat (first|exact Drawn0.refl _|apply Drawn0.step)⟩
 ·rw [if_neg c2] at H
  have c2b0:decide (97 ≤ a0) = false:=decide_eq_false c2
  clear c2
  by_cases c8:a0 ≥ 48
  ·rw [if_pos c8] at H
   have c8b0:decide (48 ≤ a0) = true:=decide_eq_true c8
   clear c8
   by_cases c9:a0 ≤ 57
   ·rw [if_pos c9] at H
    have c9b0:decide (a0 ≤ 57) = true:=decide_eq_true c9
    clear c9
    obtain rfl:=Option.some.inj H
    go_enter Tryd.func87,Tryd.ntmps87
    go_wp2
    go_ret
    exact ⟨by first|rfl|(simp;done)|(simp only [i64_w,i32_w] <;> rfl)|(simp [*];done)|(simp [emp_bne,emp_beq];done),by repeat (first|exact Drawn0.refl _|apply Drawn0.step)⟩
   ·rw [if_neg c9] at H
    have c9b0:decide (a0 ≤ 57) = false:=decide_eq_false c9
    clear c9
    by_cases c10:a0 = 46
    ·rw [if_pos c10] at H
     have c10b0:(a0 == 46) = true:=beq_iff_eq.mpr c10
     have c10b1:(a0 != 46) = false:=bne_eq_false_iff_eq.mpr c10
     clear c10
     obtain rfl:=Option.some.inj H
     go_enter Tryd.func87,Tryd.ntmps87
     go_wp2
     go_ret
     exact ⟨by first|rfl|(simp;done)|(simp only [i64_w,i32_w] <;> rfl)|(simp [*];done)|(simp [emp_bne,emp_beq];done),by repeat (first|exact Drawn0.refl _|apply Drawn0.step)⟩
    ·rw [if_neg c10] at H
     have c10b0:(a0 == 46) = false:=beq_eq_false_iff_ne.mpr c10
     have c10b1:(a0 != 46) = true:=bne_iff_ne.mpr c10
     obtain rfl:=Option.some.inj H
     go_enter Tryd.func87,Tryd.ntmps87
     go_wp2
     go_ret
     exact ⟨by first|rfl|(simp;done)|(simp only [i64_w,i32_w] <;> rfl)|(simp [*];done)|(simp [emp_bne,emp_beq];done),by repeat (first|exact Drawn0.refl _|apply Drawn0.step)⟩
  ·rw [if_neg c8] at H
   have c8b0:decide (48 ≤ a0) = false:=decide_eq_false c8
   clear c8
   by_cases c11:a0 = 46
   ·rw [if_pos c11] at H
    have c11b0:(a0 == 46) = true:=beq_iff_eq.mpr c11
    have c11b1:(a0 != 46) = false:=bne_eq_false_iff_eq.mpr c11
    clear c11
    obtain rfl:=Option.some.inj H
    go_enter Tryd.func87,Tryd.ntmps87
    go_wp2
    go_ret
    exact ⟨by first|rfl|(simp;done)|(simp only [i64_w,i32_w] <;> rfl)|(simp [*];done)|(simp [emp_bne,emp_beq];done),by repeat (first|exact Drawn0.refl _|apply Drawn0.step)⟩
   ·rw [if_neg c11] at H
    have c11b0:(a0 == 46) = false:=beq_eq_false_iff_ne.mpr c11
    have c11b1:(a0 != 46) = true:=bne_iff_ne.mpr c11
    obtain rfl:=Option.some.inj H
    go_enter Tryd.func87,Tryd.ntmps87
    go_wp2
    go_ret
    exact ⟨by first|rfl|(simp;done)|(simp only [i64_w,i32_w] <;> rfl)|(simp [*];done)|(simp [emp_bne,emp_beq];done),by repeat (first|exact Drawn0.refl _|apply Drawn0.step)⟩

end Go.Proofs.YtbnnamjaljohiaaDoor.P
