-- Written by a program of this session (patch_print.py over the kit's print; given texts in wip/given).
-- Cut down by a program of this session (wip/tools/prune.py) to what its claim can name.
import Derived.Test.YtbnnamjaljohiaaDoorSq
import Derived.Test.YtbnnamjaljohiaaDoorPx0
import Derived.Test.YtbnnamjaljohiaaDoorPx1
import Derived.Test.YtbnnamjaljohiaaDoorPx2
namespace Go.Proofs.YtbnnamjaljohiaaDoor.P
open Go.RowKit Go.Proofs.YtbnnamjaljohiaaDoorW.PrintWords Go.Proofs.YtbnnamjaljohiaaDoorW.PrintLast Go.Proofs.YtbnnamjaljohiaaDoorW.PrintMore
attribute [local go_sem] max2_int min2_int max_two min_two max_three min_three max_four min_four   -- for this text's walks alone
set_option linter.unusedVariables false
set_option linter.unusedSimpArgs false
set_option maxHeartbeats 8000000
set_option maxRecDepth 100000

/-! ### spec_l1Way: function 34 -/
def spec_l1Way.l0:Nat → ByteArray → Bool → List ByteArray → List ByteArray → Int → ByteArray → List ByteArray → Bool → ByteArray → Option (ByteArray × List ByteArray × Bool × ByteArray × Bool)
 | 0,_,_,_,_,_,_,_,_,_=>none
 | k + 1,x6,x7,x8,x9,x10,x153000,x153001,x153002,x153003=>if x10 < (x9.length:Int) then (if 0 ≤ x10 then ((spec_EscNorm.f k (rdOf ByteArray.empty x9 x10)).bind fun bt167=>(if bt167.2 = true then (if x8.length < 8796093022208 then (spec_l1Way.l0 k x6 x7 (x8 ++ [bt167.1]) x9 (wrap64 (x10 + 1)) x153000 x153001 x153002 x153003) else (none)) else (some ((⟨#[]⟩:ByteArray),([]:List ByteArray),false,(⟨#[]⟩:ByteArray),false)))) else (none)) else ((spec_EscNorm.f k x6).bind fun bt172=>((spec_PathClean.f k x8).bind fun t174=>(if bt172.2 = true then ((spec_AddrOk.f k x153000 t174 x7 bt172.1).bind fun t178=>(if t178 = true then (some (x153000,t174,x7,bt172.1,true)) else (some ((⟨#[]⟩:ByteArray),([]:List ByteArray),false,(⟨#[]⟩:ByteArray),false)))) else (some ((⟨#[]⟩:ByteArray),([]:List ByteArray),false,(⟨#[]⟩:ByteArray),false)))))
def spec_l1Way.f (k:Nat) (a0_0:ByteArray) (l0_1:List ByteArray) (a0_2:Bool) (a0_3:ByteArray) (a1:ByteArray):Option (ByteArray × List ByteArray × Bool × ByteArray × Bool):=(spec_l1Cut.f k a1 63).bind fun bt154=>((some (([]:List ByteArray):List ByteArray)).bind fun y157=>(if y157.length + l0_1.length < 8796093022208 then ((spec_l1Split.f k bt154.1 47).bind fun t163=>(spec_l1Way.l0 k bt154.2.1 bt154.2.2 (y157 ++ l0_1) t163 0 a0_0 l0_1 a0_2 a0_3)) else (none)))
theorem spec_l1Way.mono_l:∀ k,(∀ y0 y1 y2 y3 y4 y5 y6 y7 y8,LeO (spec_l1Way.l0 k y0 y1 y2 y3 y4 y5 y6 y7 y8) (spec_l1Way.l0 (k + 1) y0 y1 y2 y3 y4 y5 y6 y7 y8))
 | 0=>fun _ _ _ _ _ _ _ _ _ r h=>by simp [spec_l1Way.l0] at h
 | k + 1=>by
  have ih0:=spec_l1Way.mono_l k
  ·intro y0 y1 y2 y3 y4 y5 y6 y7 y8
   unfold spec_l1Way.l0
   repeat' first
   | (with_reducible apply ih0)
   | (with_reducible apply spec_AddrOk.mono)
   | (with_reducible apply spec_EscNorm.mono)
   | (with_reducible apply spec_PathClean.mono)
   | (with_reducible apply spec_l1Cut.mono)
   | (with_reducible apply spec_l1Split.mono)
   | (with_reducible exact LeO.refl _)
   | (with_reducible exact LeO.none _)
   | (with_reducible refine LeO.ite ?_ ?_)
   | (with_reducible refine LeO.bind ?_ (fun _=>?_))









theorem spec_l1Way.mono:∀ a0 a1 a2 a3 a4 k,LeO (spec_l1Way.f k a0 a1 a2 a3 a4) (spec_l1Way.f (k + 1) a0 a1 a2 a3 a4):=by
 intro a0 a1 a2 a3 a4 k
 have ih0:=spec_l1Way.mono_l k
 unfold spec_l1Way.f
 repeat' first
   | (with_reducible apply ih0)
   | (with_reducible apply spec_AddrOk.mono)
   | (with_reducible apply spec_EscNorm.mono)
   | (with_reducible apply spec_PathClean.mono)
   | (with_reducible apply spec_l1Cut.mono)
   | (with_reducible apply spec_l1Split.mono)
   | (with_reducible exact LeO.refl _)
   | (with_reducible exact LeO.none _)
   | (with_reducible refine LeO.ite ?_ ?_)
   | (with_reducible refine LeO.bind ?_ (fun _=>?_))









def spec_l1Way.T12:Bool × List (List Nat × List Nat):=(true,[([],[]),([0],[0]),([],[]),([2],[2]),([],[]),([],[]),([1,3,4,5],[1,3,4,5]),([],[]),([7,6,3,0,1,2,3,4,5,6,7],[6,7])])
def spec_l1Way.B12:List Nat:=[0,1,0,4,0,0,63,0,255]
theorem spec_l1Way.tab12:rtab .any (opsOf Tryd.f34 12) = spec_l1Way.T12:=by kernel_rfl
theorem spec_l1Way.bits12:waitsOk spec_l1Way.T12.2 spec_l1Way.B12 = true:=by kernel_rfl
theorem spec_l1Way.calls (k:Nat) (a0_0:ByteArray) (A0_1:Option Addr) (c0_1:Nat) (l0_1:List ByteArray) (a0_2:Bool) (a0_3:ByteArray) (a1:ByteArray) (r1:ByteArray) (r2:List ByteArray) (r3:Bool) (r4:ByteArray) (r5:Bool) (w:World) (hr0_1:Kd.C Kd.string w A0_1 l0_1.length l0_1) (hc0_1:l0_1.length ≤ c0_1) (h:spec_l1Way.f k a0_0 l0_1 a0_2 a0_3 a1 = some (r1,r2,r3,r4,r5)) :
  Calls Tryd.prog 34 #[.agg #[.string a0_0, .slice A0_1 l0_1.length c0_1, .bool a0_2, .string a0_3], .string a1] w fun e w'=>∃ v1_:Value,e = .returned (.tuple #[.agg #[.string r1,v1_, .bool r3, .string r4], .bool r5]) ∧ Kd.R Kd.string 9 w' w.heap.size (fun _=>True) v1_ r2 ∧ Below w.heap.size w w':=by
 have hu25:=Tryd.underlying25
 have HR0_1:=Am hr0_1
 have HC0_1:=Am hc0_1
 clear hr0_1 hc0_1
 have HB:=Am (Below.refl w.heap.size w)
 have H:((spec_l1Cut.f k a1 63).bind fun bt154=>((some (([]:List ByteArray):List ByteArray)).bind fun y157=>(if y157.length + l0_1.length < 8796093022208 then ((spec_l1Split.f k bt154.1 47).bind fun t163=>(spec_l1Way.l0 k bt154.2.1 bt154.2.2 (y157 ++ l0_1) t163 0 a0_0 l0_1 a0_2 a0_3)) else (none)))) = some (r1,r2,r3,r4,r5):=h
 clear h
 replace H:=bI H
 obtain ⟨⟨t154,t155,t156⟩,A30,H⟩:=H
 replace H:((some (([]:List ByteArray):List ByteArray)).bind fun y157=>(if y157.length + l0_1.length < 8796093022208 then ((spec_l1Split.f k t154 47).bind fun t163=>(spec_l1Way.l0 k t155 t156 (y157 ++ l0_1) t163 0 a0_0 l0_1 a0_2 a0_3)) else (none))) = some (r1,r2,r3,r4,r5):=H
 have A3:=Am A30
 clear A30
 obtain ⟨y157,hy157⟩:∃ y_:List ByteArray,y_ = (([]:List ByteArray)):=⟨_,rfl⟩
 replace H:(if y157.length + l0_1.length < 8796093022208 then ((spec_l1Split.f k t154 47).bind fun t163=>(spec_l1Way.l0 k t155 t156 (y157 ++ l0_1) t163 0 a0_0 l0_1 a0_2 a0_3)) else (none)) = some (r1,r2,r3,r4,r5):=by first|(rw [hy157];with_reducible exact H)|(have H2_:=(Option.bind_some _ _).symm.trans H;rw [hy157];with_reducible exact H2_)|(have H2_:=(Option.bind_some _ _).symm.trans H;with_reducible exact H2_)|with_reducible exact H|(rw [hy157];exact H)|exact H
 have Ny157:=Am hy157
 clear hy157
 by_cases c4:y157.length + l0_1.length < 8796093022208
 ·rw [if_pos c4] at H
  have LMc4:=Am c4
  clear c4
  obtain ⟨y160,hy160⟩:∃ y_:List ByteArray,y_ = (y157 ++ l0_1):=⟨_,rfl⟩
  replace H:((spec_l1Split.f k t154 47).bind fun t163=>(spec_l1Way.l0 k t155 t156 y160 t163 0 a0_0 l0_1 a0_2 a0_3)) = some (r1,r2,r3,r4,r5):=by first|(rw [hy160];with_reducible exact H)|(have H2_:=(Option.bind_some _ _).symm.trans H;rw [hy160];with_reducible exact H2_)|(have H2_:=(Option.bind_some _ _).symm.trans H;with_reducible exact H2_)|with_reducible exact H|(rw [hy160];exact H)|exact H
  have Ny160:=Am hy160
  clear hy160
  replace H:=bI H
  obtain ⟨t163,A50,H⟩:=H
  replace H:(spec_l1Way.l0 k t155 t156 y160 t163 0 a0_0 l0_1 a0_2 a0_3) = some (r1,r2,r3,r4,r5):=H
  have A5:=Am A50
  clear A50
  have H':=Am H
  clear H
  go_enter Tryd.func34,Tryd.ntmps34
  go_wp2_with (first|((with_reducible refine gate_dst (N:=2) rfl ?_);refine box_event ?hg (N:=2) ?hd (cs:=#[.string a0_0, .slice A0_1 l0_1.length c0_1, .bool a0_2, .string a0_3]) (t:=25) ?hr ?_;(case hd=>rfl);(case hg=>rfl);(case hr=>(go_simp <;> rfl));intro gb152 hg w6 hbox hb;have n0_:=Am (bT (by repeat (first|(with_reducible first|exact HB.out|apply bA|apply bN|apply bD)|exact HB.out)) hb);have n1_:=Am (hbox);have n2_:=Am ((by rw [hg];exact (bU (by repeat (first|(with_reducible first|exact HB.out|apply bA|apply bN|apply bD)|exact HB.out))):w.heap.size ≤ gb152));have n3_:=n2_;clear HB;have HB:=n0_;have BK152:=n1_;have GW152:=n2_;have GE152:=n3_;clear n0_ n1_ n2_ n3_ hb hbox hg)|((with_reducible refine gate_dst (N:=4) rfl ?_);refine box_event ?hg (N:=4) ?hd (cs:=#[.string (⟨#[]⟩:ByteArray), .slice none 0 0, .bool false, .string (⟨#[]⟩:ByteArray)]) (t:=25) ?hr ?_;(case hd=>rfl);(case hg=>rfl);(case hr=>(go_simp <;> rfl));intro gb153 hg w7 hbox hb;have n0_:=Am (blk_below (bB BK152.out) hb);have n1_:=Am (bT (by repeat (first|(with_reducible first|exact HB.out|apply bA|apply bN|apply bD|refine bS ?_ GE152.out)|exact HB.out)) hb);have n2_:=Am (hbox);have n3_:=Am ((by rw [hg];exact (bU (by repeat (first|(with_reducible first|exact HB.out|apply bA|apply bN|apply bD|refine bS ?_ GE152.out)|exact HB.out))):w.heap.size ≤ gb153));have n4_:=n3_;have n5_:=Am ((by rw [hg];exact Nat.ne_of_lt (blk_lt (bB BK152.out)):gb152 ≠ gb153));have n6_:=Am ((by rw [hg];exact Nat.ne_of_gt (blk_lt (bB BK152.out)):gb153 ≠ gb152));clear BK152 HB;have BK152:=n0_;have HB:=n1_;have BK153:=n2_;have GW153:=n3_;have GE153:=n4_;have NB152_153:=n5_;have NB153_152:=n6_;clear n0_ n1_ n2_ n3_ n4_ n5_ n6_ hb hbox hg)|((with_reducible refine gate_callee (f:=32) rfl ?_);refine goesL_ (some 18) rfl rfl Tryd.func32 (by kernel_rfl) rfl #[.string a1, .int .u8 63] rfl (aE2 rfl rfl) ?_;(with_reducible refine (spec_l1Cut.calls k a1 63 t154 t155 t156 _ A3.out).mono ?_);rintro e w' ⟨rfl,⟨nd,rfl⟩⟩;refine ⟨_,rfl,?_⟩)|((with_reducible refine gate_dst (N:=22) rfl ?_);refine Kd.R_lit Kd.string _ 9 ?hg (N:=22) ?hd (xs:=([]:List ByteArray)) (inner:=[]) (ok:=fun _=>True) (okp:=fun _=>True) ?hr ?hp (fun _ hk=>hk) trivial (Below.refl _ _) (Nat.le_refl _) (by simp) ?_;(case hd=>rfl);(case hg=>rfl);(case hr=>(go_simp <;> rfl));(case hp=>exact (Reps.none _ _));intro v158 w8 ho9 hb hg_ hnew_;clear hg_ hnew_;(first|rw [← Ny157.out] at ho9|(simp only [Int.reduceToNat] at ho9;rw [← Ny157.out] at ho9));have n0_:=Am (Kd.R_lower ho9 (bU (by repeat (first|(with_reducible first|exact HB.out|apply bA|apply bN|apply bD|refine bS ?_ GE152.out|refine bS ?_ GE153.out)|exact HB.out))));have n1_:=Am (blk_below (bB BK152.out) hb);have n2_:=Am (blk_below (bB BK153.out) hb);have n3_:=Am (bT (by repeat (first|(with_reducible first|exact HB.out|apply bA|apply bN|apply bD|refine bS ?_ GE152.out|refine bS ?_ GE153.out)|exact HB.out)) hb);clear BK152 BK153 HB;have HO159:=n0_;have BK152:=n1_;have BK153:=n2_;have HB:=n3_;clear n0_ n1_ n2_ n3_ hb ho9;have hnb10:=NB152_153.out;have hnc10:=NB153_152.out;obtain ⟨hcz11_0,hcz11_1,hcz11_2,hcz11_3,hfz11_0,hfz11_1,hfz11_2,hfz11_3⟩:=bX BK152.out)|((with_reducible refine gate_builtin (b:=.append) (xs:=#[.tmp 22, .tmp 24]) rfl ?_);at_builtin;refine Kd.R_append_rows Kd.string (w0:=w) w.heap.size rfl (.tmp 22) (.tmp 24) 23 9 (.string ⟨#[]⟩) 16 rfl Tryd.underlying23 info9 rfl (by decide) (by omega) v158 y157 l0_1 _ _ _ (fun _=>True) (fun _=>False) rfl rfl ?aO ?aR (fun _ _ h=>h) (fun _ h=>h.elim) ?aF ?aB ?aS ?aL ?_;(case aR=>repeat (first|exact (Kd.C_below HR0_1.out HB.out)|(with_reducible refine bC ?_)));(case aB=>exact (by repeat (first|(with_reducible first|exact HB.out|apply bA|apply bN|apply bD|refine bS ?_ GE152.out|refine bS ?_ GE153.out)|exact HB.out)));(case aF=>exact (fun _ _=>trivial));(case aO=>exact (bR HO159.out));(case aS=>exact (bU (by repeat (first|(with_reducible first|exact HB.out|apply bA|apply bN|apply bD|refine bS ?_ GE152.out|refine bS ?_ GE153.out)|exact HB.out))));(case aL=>have:=LMc4.out;omega);intro v161 w12 ho hb hg hat;rw [← Ny160.out] at ho;have n0_:=Am (blk_grown (bB BK152.out) hg (Kd.R_ne HO159.out BK152.out (by decide)));have n1_:=Am (blk_grown (bB BK153.out) hg (Kd.R_ne HO159.out BK153.out (by decide)));have n2_:=Am (hb);have n3_:=Am (ho);clear BK152 BK153 HB HO159;have BK152:=n0_;have BK153:=n1_;have HB:=n2_;have HO162:=n3_;clear n0_ n1_ n2_ n3_ ho hb hg hat)|((with_reducible refine gate_callee (f:=59) rfl ?_);refine goesL_ (some 27) rfl rfl Tryd.func59 (by kernel_rfl) rfl #[.string t154, .int .u8 47] rfl (aE2 rfl rfl) ?_;(with_reducible refine (spec_l1Split.calls k t154 47 t163 _ A5.out).mono ?_);rintro e w13 ⟨v164,rfl,ho0,hb⟩;refine ⟨_,rfl,?_⟩;have n0_:=Am (Kd.R_elder' (bR HO162.out) (Kd.R_base ho0) hb);have n1_:=Am (Kd.R_lower (Kd.R_new' ho0 (Kd.R_lt (bR HO162.out))) (bU (by repeat (first|(with_reducible first|exact HB.out|apply bA|apply bN|apply bD|refine bS ?_ GE152.out|refine bS ?_ GE153.out)|exact HB.out))));have n2_:=Am (blk_below (bB BK152.out) hb);have n3_:=Am (blk_below (bB BK153.out) hb);have n4_:=Am (bT (by repeat (first|(with_reducible first|exact HB.out|apply bA|apply bN|apply bD|refine bS ?_ GE152.out|refine bS ?_ GE153.out)|exact HB.out)) hb);clear HO162 BK152 BK153 HB;have HO162:=n0_;have HO165:=n1_;have BK152:=n2_;have BK153:=n3_;have HB:=n4_;clear n0_ n1_ n2_ n3_ n4_;(try clear hb);(try clear ho0)))
  go_loopg [8,10] k (fun kq v8 v10 w'=>∃ (x8_1:List ByteArray) (x10_1:Int) (x154000_1:ByteArray) (x154002_1:Bool) (x154003_1:ByteArray),v10 = .int .i64 x10_1 ∧ Aside0 (spec_l1Way.l0 kq t155 t156 x8_1 t163 x10_1 a0_0 l0_1 a0_2 a0_3 = some (r1,r2,r3,r4,r5)) ∧ Aside0 (kq ≤ k) ∧ Aside0 (Kd.R Kd.string 9 w' w.heap.size (fun k_=>some k_ ≠ (v164:Value).ownBlock) v8 x8_1) ∧ Aside0 (Kd.R Kd.string 9 w' w.heap.size (fun k_=>some k_ ≠ (v8:Value).ownBlock) v164 t163) ∧ Aside0 (w'.heap[gb152]? = some (.cells #[.string a0_0,(.slice A0_1 l0_1.length c0_1), .bool a0_2, .string a0_3] 25 (0,0))) ∧ Aside0 (w'.heap[gb153]? = some (.cells #[.string x154000_1,(.slice none 0 0), .bool x154002_1, .string x154003_1] 25 (0,0))) ∧ Aside0 (Below w.heap.size w w'))
  case atStart=>exact ⟨(y160),(0),((⟨#[]⟩:ByteArray)),(false),((⟨#[]⟩:ByteArray)),(by first|rfl|(simp;done)|(simp only [i64_w,i32_w] <;> rfl)|(simp [*];done)|(simp [emp_bne,emp_beq];done)),H',⟨Nat.le_refl _⟩,⟨by (with_reducible repeat (first|apply rA|apply rN|apply rD));exact Kd.R_mono HO162.out (fun _ hk=>hk.2)⟩,⟨by (with_reducible repeat (first|apply rA|apply rN|apply rD));exact Kd.R_mono HO165.out (fun _ hk=>hk.2)⟩,⟨by refine bB ?_;exact BK152.out⟩,⟨by refine bB ?_;exact BK153.out⟩,⟨by repeat (first|(with_reducible first|exact HB.out|apply bA|apply bN|apply bD|refine bS ?_ GE152.out|refine bS ?_ GE153.out)|exact HB.out)⟩⟩
  case round =>
   clear H'
   try clear c1
   try clear p2
   try clear c3
   try clear c4
   try clear c5
   try clear c10
   try clear hcz11_0
   try clear hcz11_1
   try clear hcz11_2
   try clear hcz11_3
   try clear hfz11_0
   try clear hfz11_1
   try clear hfz11_2
   try clear hfz11_3
   obtain ⟨x8_1,x10_1,x154000_1,x154002_1,x154003_1,rfl,HA,HK1,HO_8,HO_9,BK152,BK153,HB⟩:=hrel
   cases gk with
   | zero=>exact absurd HA.out (by simp [spec_l1Way.l0])
   | succ k1 =>
    have H:=HA.out
    clear HA
    simp only [spec_l1Way.l0] at H
    by_cases c14:x10_1 < (t163.length:Int)
    ·rw [if_pos c14] at H
     have c14b0:decide (x10_1 < (t163.length:Int)) = true:=decide_eq_true c14
     clear c14
     by_cases c15:0 ≤ x10_1
     ·rw [if_pos c15] at H
      have c15b0:decide (0 ≤ x10_1) = true:=decide_eq_true c15
      clear c15
      replace H:=bI H
      obtain ⟨⟨t167,t168⟩,A160,H⟩:=H
      replace H:(if t168 = true then (if x8_1.length < 8796093022208 then (spec_l1Way.l0 k1 t155 t156 (x8_1 ++ [t167]) t163 (wrap64 (x10_1 + 1)) a0_0 l0_1 a0_2 a0_3) else (none)) else (some ((⟨#[]⟩:ByteArray),([]:List ByteArray),false,(⟨#[]⟩:ByteArray),false))) = some (r1,r2,r3,r4,r5):=H
      have A16:=Am A160
      clear A160
      by_cases c17:t168 = true
      ·subst c17
       have H1:(if x8_1.length < 8796093022208 then (spec_l1Way.l0 k1 t155 t156 (x8_1 ++ [t167]) t163 (wrap64 (x10_1 + 1)) a0_0 l0_1 a0_2 a0_3) else (none)) = some (r1,r2,r3,r4,r5):=by rw [if_pos rfl] at H;exact H
       clear H
       have H:=H1
       clear H1
       by_cases c18:x8_1.length < 8796093022208
       ·rw [if_pos c18] at H
        have LMc18:=Am c18
        clear c18
        obtain ⟨y169,hy169⟩:∃ y_:List ByteArray,y_ = (x8_1 ++ [t167]):=⟨_,rfl⟩
        replace H:(spec_l1Way.l0 k1 t155 t156 y169 t163 (wrap64 (x10_1 + 1)) a0_0 l0_1 a0_2 a0_3) = some (r1,r2,r3,r4,r5):=by first|(rw [hy169];with_reducible exact H)|(have H2_:=(Option.bind_some _ _).symm.trans H;rw [hy169];with_reducible exact H2_)|(have H2_:=(Option.bind_some _ _).symm.trans H;with_reducible exact H2_)|with_reducible exact H|(rw [hy169];exact H)|exact H
        have Ny169:=Am hy169
        clear hy169
        have H':=Am H
        clear H
        obtain ⟨Ao19,co19,eo19⟩:=Kd.R_slice HO_9.out
        subst eo19
        have p166:0 ≤ (x10_1:Int):=oD (by assumption)
        have q166:x10_1 < (t163.length:Int):=oD (by assumption)
        obtain ⟨ad166,e166,hx166_0⟩:=Kd.at_string (Kd.R_reads' HO_9.out).2.2 x10_1 p166 q166
        cases e166
        replace p166:=eq_true p166
        replace q166:=eq_true q166
        go_wp2_with (first|((with_reducible refine gate_callee (f:=60) rfl ?_);refine goesL_ (some 39) rfl rfl Tryd.func60 (by kernel_rfl) rfl #[.string (rdOf ByteArray.empty t163 x10_1)] rfl (aE1 rfl) ?_;(with_reducible refine (spec_EscNorm.calls k1 (rdOf ByteArray.empty t163 x10_1) t167 true _ A16.out).mono ?_);rintro e w20 ⟨rfl,hb⟩;refine ⟨_,rfl,?_⟩;have n0_:=bH HO_8 hb;have n1_:=bH HO_9 hb;have n2_:=Am (blk_below (bB BK152.out) hb);have n3_:=Am (blk_below (bB BK153.out) hb);have n4_:=Am (bT (by repeat (first|(with_reducible first|exact HB.out|apply bA|apply bN|apply bD|refine bS ?_ GE152.out|refine bS ?_ GE153.out)|exact HB.out)) hb);clear HO_8 HO_9 BK152 BK153 HB;have HO_8:=n0_;have HO_9:=n1_;have BK152:=n2_;have BK153:=n3_;have HB:=n4_;clear n0_ n1_ n2_ n3_ n4_;(try clear hb))|((with_reducible refine gate_builtin (b:=.append) (xs:=#[.tmp 45, .tmp 47]) rfl ?_);at_builtin;refine Kd.R_append Kd.string (w0:=w) w.heap.size rfl (.tmp 45) (.tmp 47) 23 9 (.string ⟨#[]⟩) 16 rfl Tryd.underlying23 info9 rfl (by decide) (by omega) u8 x8_1 t167 [.string t167] (fun k_=>some k_ ≠ (.slice (some ad166) t163.length co19:Value).ownBlock) (fun _=>False) rfl rfl ?aP (fun _ hk=>hk.elim) ?aF ?aO ?aB ?aS ?aL ?_;(case aP=>exact rfl);(case aB=>exact (by repeat (first|(with_reducible first|exact HB.out|apply bA|apply bN|apply bD|refine bS ?_ GE152.out|refine bS ?_ GE153.out)|exact HB.out)));(case aF=>exact (fun k_ hk=>Kd.fresh' (Kd.R_lt (bR HO_9.out)) k_ hk));(case aO=>exact (bR HO_8.out));(case aS=>exact (bU (by repeat (first|(with_reducible first|exact HB.out|apply bA|apply bN|apply bD|refine bS ?_ GE152.out|refine bS ?_ GE153.out)|exact HB.out))));(case aL=>have:=LMc18.out;omega);intro v170 w21 ho hb hg hat;rw [← Ny169.out] at ho;have n0_:=Am (Kd.R_after (ok:=(fun _=>True)) (by (with_reducible repeat (first|apply rA|apply rN|apply rD));exact Kd.R_mono HO_9.out (fun _ hk=>⟨trivial,hk⟩)) hg hat);have n1_:=Am (blk_grown (bB BK152.out) hg (Kd.R_ne HO_8.out BK152.out (by decide)));have n2_:=Am (blk_grown (bB BK153.out) hg (Kd.R_ne HO_8.out BK153.out (by decide)));have n3_:=Am (hb);have n4_:=Am (ho);clear HO_9 BK152 BK153 HB HO_8;have HO_9:=n0_;have BK152:=n1_;have BK153:=n2_;have HB:=n3_;have HO171:=n4_;clear n0_ n1_ n2_ n3_ n4_ ho hb hg hat))
        go_roundg k1
        case measure=>have:=HK1.out;omega
        case rel=>exact ⟨(y169),(wrap64 (x10_1 + 1)),(x154000_1),(x154002_1),(x154003_1),(by first|rfl|(simp;done)|(simp only [i64_w,i32_w] <;> rfl)|(simp [*];done)|(simp [emp_bne,emp_beq];done)),H',⟨by have:=HK1.out;omega⟩,⟨by (with_reducible repeat (first|apply rA|apply rN|apply rD));exact HO171.out⟩,⟨by (with_reducible repeat (first|apply rA|apply rN|apply rD));exact Kd.R_mono HO_9.out (fun _ hk=>hk.2)⟩,⟨by refine bB ?_;exact BK152.out⟩,⟨by refine bB ?_;exact BK153.out⟩,⟨by repeat (first|(with_reducible first|exact HB.out|apply bA|apply bN|apply bD|refine bS ?_ GE152.out|refine bS ?_ GE153.out)|exact HB.out)⟩⟩
       ·rw [if_neg c18] at H
        exact absurd H (by simp)
      ·replace c17:=Bool.eq_false_iff.mpr c17
       subst c17
       have H1:(some ((⟨#[]⟩:ByteArray),([]:List ByteArray),false,(⟨#[]⟩:ByteArray),false)) = some (r1,r2,r3,r4,r5):=by rw [if_neg (show ¬ (false = true) by decide)] at H;exact H
       clear H
       have H:=H1
       clear H1
       simp only [Option.some.injEq,Prod.mk.injEq] at H
       obtain ⟨rfl,rfl,rfl,rfl,rfl⟩:=H
       obtain ⟨Ao22,co22,eo22⟩:=Kd.R_slice HO_9.out
       subst eo22
       have p166:0 ≤ (x10_1:Int):=oD (by assumption)
       have q166:x10_1 < (t163.length:Int):=oD (by assumption)
       obtain ⟨ad166,e166,hx166_0⟩:=Kd.at_string (Kd.R_reads' HO_9.out).2.2 x10_1 p166 q166
       cases e166
       replace p166:=eq_true p166
       replace q166:=eq_true q166
       go_wp2_with (first|((with_reducible refine gate_callee (f:=60) rfl ?_);refine goesL_ (some 39) rfl rfl Tryd.func60 (by kernel_rfl) rfl #[.string (rdOf ByteArray.empty t163 x10_1)] rfl (aE1 rfl) ?_;(with_reducible refine (spec_EscNorm.calls k1 (rdOf ByteArray.empty t163 x10_1) t167 false _ A16.out).mono ?_);rintro e w23 ⟨rfl,hb⟩;refine ⟨_,rfl,?_⟩;have n0_:=bH HO_8 hb;have n1_:=bH HO_9 hb;have n2_:=Am (blk_below (bB BK152.out) hb);have n3_:=Am (blk_below (bB BK153.out) hb);have n4_:=Am (bT (by repeat (first|(with_reducible first|exact HB.out|apply bA|apply bN|apply bD|refine bS ?_ GE152.out|refine bS ?_ GE153.out)|exact HB.out)) hb);clear HO_8 HO_9 BK152 BK153 HB;have HO_8:=n0_;have HO_9:=n1_;have BK152:=n2_;have BK153:=n3_;have HB:=n4_;clear n0_ n1_ n2_ n3_ n4_;(try clear hb);have hnb24:=NB153_152.out;have hnc24:=NB152_153.out;obtain ⟨hcz25_0,hcz25_1,hcz25_2,hcz25_3,hfz25_0,hfz25_1,hfz25_2,hfz25_3⟩:=bX BK153.out))
       refine bodyPost_ret (results_ct rfl _ _ gb153 25 #[.string (⟨#[]⟩:ByteArray), .slice none 0 0, .bool false, .string (⟨#[]⟩:ByteArray)] (0,0) _ rfl (by refine bB ?_;apply bP;refine bB ?_;exact BK153.out) Tryd.underlying25 rfl (by kernel_rfl)) rfl ?_
       exact ⟨_,by first|rfl|(simp <;> rfl)|(simp [*] <;> rfl),by first|exact Kd.R_nil _ _ _ _ _|exact Kd.N_nil _ _ _ _ _|exact Kd.V_nil _ _ _ _ _|exact Kd.Q_nil _ _ _ _ _|exact Kd.S_nil _ _ _ _ _,by repeat (first|(with_reducible first|exact HB.out|apply bA|apply bN|apply bD|refine bS ?_ GE152.out|refine bS ?_ GE153.out)|exact HB.out)⟩
     ·rw [if_neg c15] at H
      exact absurd H (by simp)
    ·rw [if_neg c14] at H
     have c14b0:decide (x10_1 < (t163.length:Int)) = false:=decide_eq_false c14
     clear c14
     replace H:=bI H
     obtain ⟨⟨t172,t173⟩,A260,H⟩:=H
     replace H:((spec_PathClean.f k1 x8_1).bind fun t174=>(if t173 = true then ((spec_AddrOk.f k1 a0_0 t174 t156 t172).bind fun t178=>(if t178 = true then (some (a0_0,t174,t156,t172,true)) else (some ((⟨#[]⟩:ByteArray),([]:List ByteArray),false,(⟨#[]⟩:ByteArray),false)))) else (some ((⟨#[]⟩:ByteArray),([]:List ByteArray),false,(⟨#[]⟩:ByteArray),false)))) = some (r1,r2,r3,r4,r5):=H
     have A26:=Am A260
     clear A260
     replace H:=bI H
     obtain ⟨t174,A270,H⟩:=H
     replace H:(if t173 = true then ((spec_AddrOk.f k1 a0_0 t174 t156 t172).bind fun t178=>(if t178 = true then (some (a0_0,t174,t156,t172,true)) else (some ((⟨#[]⟩:ByteArray),([]:List ByteArray),false,(⟨#[]⟩:ByteArray),false)))) else (some ((⟨#[]⟩:ByteArray),([]:List ByteArray),false,(⟨#[]⟩:ByteArray),false))) = some (r1,r2,r3,r4,r5):=H
     have A27:=Am A270
     clear A270
     by_cases c28:t173 = true
     ·subst c28
      have H1:((spec_AddrOk.f k1 a0_0 t174 t156 t172).bind fun t178=>(if t178 = true then (some (a0_0,t174,t156,t172,true)) else (some ((⟨#[]⟩:ByteArray),([]:List ByteArray),false,(⟨#[]⟩:ByteArray),false)))) = some (r1,r2,r3,r4,r5):=by rw [if_pos rfl] at H;exact H
      clear H
      have H:=H1
      clear H1
      replace H:=bI H
      obtain ⟨t178,A290,H⟩:=H
      replace H:(if t178 = true then (some (a0_0,t174,t156,t172,true)) else (some ((⟨#[]⟩:ByteArray),([]:List ByteArray),false,(⟨#[]⟩:ByteArray),false))) = some (r1,r2,r3,r4,r5):=H
      have A29:=Am A290
      clear A290
      by_cases c30:t178 = true
      ·subst c30
       have H1:(some (a0_0,t174,t156,t172,true)) = some (r1,r2,r3,r4,r5):=by rw [if_pos rfl] at H;exact H
       clear H
       have H:=H1
       clear H1
       simp only [Option.some.injEq,Prod.mk.injEq] at H
       obtain ⟨rfl,rfl,rfl,rfl,rfl⟩:=H
       obtain ⟨Ao31,co31,eo31⟩:=Kd.R_slice HO_9.out
       subst eo31
       try go_wp2_with (first|((with_reducible refine gate_callee (f:=60) rfl ?_);refine goesL_ (some 51) rfl rfl Tryd.func60 (by kernel_rfl) rfl #[.string t155] rfl (aE1 rfl) ?_;(with_reducible refine (spec_EscNorm.calls k1 t155 t172 true _ A26.out).mono ?_);rintro e w32 ⟨rfl,hb⟩;refine ⟨_,rfl,?_⟩;have n0_:=bH HO_8 hb;have n1_:=bH HO_9 hb;have n2_:=Am (blk_below (bB BK152.out) hb);have n3_:=Am (blk_below (bB BK153.out) hb);have n4_:=Am (bT (by repeat (first|(with_reducible first|exact HB.out|apply bA|apply bN|apply bD|refine bS ?_ GE152.out|refine bS ?_ GE153.out)|exact HB.out)) hb);clear HO_8 HO_9 BK152 BK153 HB;have HO_8:=n0_;have HO_9:=n1_;have BK152:=n2_;have BK153:=n3_;have HB:=n4_;clear n0_ n1_ n2_ n3_ n4_;(try clear hb);obtain ⟨Ao33,co33,eo33⟩:=Kd.R_slice HO_8.out;subst eo33))
       have n0_:=Am (Kd.R_drew HO_8.out)
       have n1_:=Am (Kd.R_drew HO_9.out)
       have n2_:=Am (blk_drew BK152.out)
       have n3_:=Am (blk_drew BK153.out)
       have n4_:=Am (below_drew1 HB.out)
       clear HO_8
       clear HO_9
       clear BK152
       clear BK153
       clear HB
       have HO_8:=n0_
       have HO_9:=n1_
       have BK152:=n2_
       have BK153:=n3_
       have HB:=n4_
       clear n0_ n1_ n2_ n3_ n4_
       refine start_ (n:=9) (S:=fun w'=>w'.cell? ⟨gb152,0,none⟩ = some (.string a0_0) ∧ w'.cell? ⟨gb152,1,none⟩ = some (.slice A0_1 l0_1.length c0_1) ∧ w'.cell? ⟨gb152,2,none⟩ = some (.bool a0_2) ∧ w'.cell? ⟨gb152,3,none⟩ = some (.string a0_3)) (ds:=[]) #[false,false,false,false,false,false,false,false,false] (by kernel_rfl) rfl rfl ⟨bM BK152.out 0 rfl,bM BK152.out 1 rfl,bM BK152.out 2 rfl,bM BK152.out 3 rfl⟩ (fun hHeld=>?_);refine with_tabW spec_l1Way.tab12 spec_l1Way.bits12 (fun HT_ HW_=>?_)
       generalize w32.drew = w34 at HO_8 HO_9 BK152 BK153 HB hHeld ⊢
       refine pure_ (i:=0) (N:=some 54) (v:=?_) (a':=?_) #[true,false,false,false,false,false,false,false,false] rfl rfl (any_of HT_.out (by kernel_rfl)) (fun _ _ _ h=>h) (Or.inl ⟨by rfl,?_⟩) ?_ ?_
       rotate_left
       ·intro w'
        go_simp
        with_reducible rfl
       rotate_left
       ·simp only [Act.put,lT,lZ,lS,i64_w,i32_w]
        rfl
       refine pure_ (i:=2) (N:=some 56) (v:=?_) (a':=?_) #[true,false,true,false,false,false,false,false,false] rfl rfl (any_of HT_.out (by kernel_rfl)) (fun _ _ _ h=>h) (Or.inl ⟨by rfl,?_⟩) ?_ ?_
       rotate_left
       ·intro w'
        go_simp
        with_reducible rfl
       rotate_left
       ·simp only [Act.put,lT,lZ,lS,i64_w,i32_w]
        rfl
       refine pure_ (i:=4) (N:=some 58) (v:=?_) (a':=?_) #[true,false,true,false,true,false,false,false,false] rfl rfl (any_of HT_.out (by kernel_rfl)) (fun _ _ _ h=>h) (Or.inl ⟨by rfl,?_⟩) ?_ ?_
       rotate_left
       ·intro w'
        go_simp
        with_reducible rfl
       rotate_left
       ·simp only [Act.put,lT,lZ,lS,i64_w,i32_w]
        rfl
       refine pure_ (i:=5) (N:=some 59) (v:=?_) (a':=?_) #[true,false,true,false,true,true,false,false,false] rfl rfl (any_of HT_.out (by kernel_rfl)) (fun _ _ _ h=>h) (Or.inl ⟨by rfl,?_⟩) ?_ ?_
       rotate_left
       ·intro w'
        go_simp
        with_reducible rfl
       rotate_left
       ·simp only [Act.put,lT,lZ,lS,i64_w,i32_w]
        rfl
       refine take_ (i:=1) (N:=some 55) (v:=?_) (a':=?_) #[true,true,true,false,true,true,false,false,false] rfl rfl (take_ofW HT_.out HW_.out (by kernel_rfl)) (fun _ _ _ h=>h) (Or.inl ⟨by rfl,?_⟩) hHeld ?_ ?_
       rotate_left
       ·rintro w' ⟨s0,s1,s2,s3⟩
        go_simp
        with_reducible rfl
       rotate_left
       ·simp only [Act.put,lT,lZ,lS,i64_w,i32_w]
        rfl
       refine join_ (σ:=Value × Nat) 1 #[true,true,true,true,true,true,true,true,false] (fun s_=>[(57,s_.1),(15, .pointer (some ⟨s_.2,0,none⟩)),(60, .agg #[.string a0_0,s_.1, .bool t156, .string t172])]) (fun s_ w'=>(w'.cell? ⟨gb152,0,none⟩ = some (.string a0_0) ∧ w'.cell? ⟨gb152,1,none⟩ = some (.slice A0_1 l0_1.length c0_1) ∧ w'.cell? ⟨gb152,2,none⟩ = some (.bool a0_2) ∧ w'.cell? ⟨gb152,3,none⟩ = some (.string a0_3)) ∧ (Kd.R Kd.string 9 w' w.heap.size (fun k_=>some k_ ≠ (.slice Ao33 x8_1.length co33:Value).ownBlock ∧ some k_ ≠ (.slice Ao31 t163.length co31:Value).ownBlock) s_.1 t174) ∧ (Kd.R Kd.string 9 w' w.heap.size (fun k_=>some k_ ≠ (s_.1:Value).ownBlock ∧ some k_ ≠ (.slice Ao31 t163.length co31:Value).ownBlock) (.slice Ao33 x8_1.length co33) x8_1) ∧ (Kd.R Kd.string 9 w' w.heap.size (fun k_=>some k_ ≠ (s_.1:Value).ownBlock ∧ some k_ ≠ (.slice Ao33 x8_1.length co33:Value).ownBlock) (.slice Ao31 t163.length co31) t163) ∧ (w'.heap[gb152]? = some (.cells #[.string a0_0, .slice A0_1 l0_1.length c0_1, .bool a0_2, .string a0_3] 25 (0,0))) ∧ (w'.heap[gb153]? = some (.cells #[.string x154000_1, .slice none 0 0, .bool x154002_1, .string x154003_1] 25 (0,0))) ∧ (w'.heap[s_.2]? = some (.cells #[.string (⟨#[]⟩:ByteArray), .slice none 0 0, .bool false, .string (⟨#[]⟩:ByteArray)] 25 (0,0))) ∧ (w.heap.size ≤ s_.2) ∧ (w.heap.size ≤ s_.2) ∧ (gb152 ≠ s_.2) ∧ (s_.2 ≠ gb152) ∧ (gb153 ≠ s_.2) ∧ (s_.2 ≠ gb153) ∧ (Below w.heap.size w w')) ?_ ?_
       rotate_left
       ·intro hCont
        refine two_ (i:=3) (j:=7) (Ni:=some 57) (Nj:=some 15) #[true,true,true,true,true,true,false,false,false] #[true,true,true,false,true,true,false,true,false] rfl rfl rfl rfl (two_of HT_.out (by kernel_rfl)) (by decide) (by decide) (fun K hK=>?_) (fun K hK=>?_)
        ·skip
         refine goes_ Tryd.func61 (by kernel_rfl) rfl #[.slice Ao33 x8_1.length co33] (by rfl) rfl rfl (by (try simp only [List.map_toArray,List.map_cons,List.map_nil]);first|done|rfl|(simp only [List.length_drop,List.length_take];rfl)) ?_
         with_reducible refine (spec_PathClean.calls k1 _ _ x8_1 t174 _ ?side1 ?side2 A27.out).mono ?_
         (case side1=>repeat (first|exact (Kd.R_reads' HO_8.out).2.2|(with_reducible refine bC ?_)))
         (case side2=>exact (Kd.R_reads' HO_8.out).2.1)
         rintro e w35 ⟨v175,rfl,ho0,hb⟩
         refine ⟨_,rfl,?_⟩
         have n0_:=Am (Kd.R_elder' (bR HO_8.out) (Kd.R_base ho0) hb)
         have n1_:=Am (Kd.R_elder' (bR HO_9.out) (Kd.R_base ho0) hb)
         have n2_:=Am (Kd.R_lower (Kd.R_new' (Kd.R_new' ho0 (Kd.R_lt (bR HO_8.out))) (Kd.R_lt (bR HO_9.out))) (bU (by repeat (first|(with_reducible first|exact HB.out|apply bA|apply bN|apply bD|refine bS ?_ GE152.out|refine bS ?_ GE153.out)|exact HB.out))))
         have n3_:=Am (blk_below (bB BK152.out) hb)
         have n4_:=Am (blk_below (bB BK153.out) hb)
         have n5_:=Am (bT (by repeat (first|(with_reducible first|exact HB.out|apply bA|apply bN|apply bD|refine bS ?_ GE152.out|refine bS ?_ GE153.out)|exact HB.out)) hb)
         clear HO_8
         clear HO_9
         clear BK152
         clear BK153
         clear HB
         have HO_8:=n0_
         have HO_9:=n1_
         have HO176:=n2_
         have BK152:=n3_
         have BK153:=n4_
         have HB:=n5_
         clear n0_ n1_ n2_ n3_ n4_ n5_
         (try clear hb)
         (try clear hb2)
         (try clear hk)
         (try clear hi)
         (try clear ho0)
         obtain ⟨Ao36,co36,eo36⟩:=Kd.R_slice HO176.out
         (first|subst eo36|(injection eo36 with f1_ f2_ f3_;have f4_:=f1_.symm;have f5_:=f3_.symm;clear f1_ f2_ f3_;subst f4_;subst f5_))
         refine hK.out _ _ ⟨bM BK152.out 0 rfl,bM BK152.out 1 rfl,bM BK152.out 2 rfl,bM BK152.out 3 rfl⟩ (fun hHeld=>?_)
         clear hK K
         refine norm_ (a':=?_) ?_ ?_
         rotate_left
         ·show Act.put _ (some 57) _ = _
          simp only [Act.put,lT,lZ,lS,i64_w,i32_w]
          rfl
         refine pure_ (i:=6) (N:=some 60) (v:=?_) (a':=?_) #[true,true,true,true,true,true,true,false,false] rfl rfl (any_of HT_.out (by kernel_rfl)) (fun _ _ _ h=>h) (Or.inl ⟨by rfl,?_⟩) ?_ ?_
         rotate_left
         ·intro w'
          go_simp
          with_reducible rfl
         rotate_left
         ·simp only [Act.put,lT,lZ,lS,i64_w,i32_w]
          rfl
         refine one_ (i:=7) (N:=some 15) #[true,true,true,true,true,true,true,true,false] rfl rfl (one_of HT_.out (by kernel_rfl)) (by decide) (fun K hK=>?_)
         refine box_step ?hg (N:=15) ?hd (cs:=#[.string (⟨#[]⟩:ByteArray), .slice none 0 0, .bool false, .string (⟨#[]⟩:ByteArray)]) (t:=25) ?hr ?_;(case hd=>rfl);(case hg=>rfl);(case hr=>(go_simp <;> rfl))
         intro gb177 hg w37 hbox hb
         have n0_:=bH HO_8 hb
         have n1_:=bH HO_9 hb
         have n2_:=bH HO176 hb
         have n3_:=Am (blk_below (bB BK152.out) hb)
         have n4_:=Am (blk_below (bB BK153.out) hb)
         have n5_:=Am (bT (by repeat (first|(with_reducible first|exact HB.out|apply bA|apply bN|apply bD|refine bS ?_ GE152.out|refine bS ?_ GE153.out)|exact HB.out)) hb)
         have n6_:=Am (hbox)
         have n7_:=Am ((by rw [hg];exact (bU (by repeat (first|(with_reducible first|exact HB.out|apply bA|apply bN|apply bD|refine bS ?_ GE152.out|refine bS ?_ GE153.out)|exact HB.out))):w.heap.size ≤ gb177))
         have n8_:=Am ((by rw [hg];exact (bU (by repeat (first|(with_reducible first|exact HB.out|apply bA|apply bN|apply bD|refine bS ?_ GE152.out|refine bS ?_ GE153.out)|exact HB.out))):w.heap.size ≤ gb177))
         have n9_:=Am ((by rw [hg];exact Nat.ne_of_lt (blk_lt (bB BK152.out)):gb152 ≠ gb177))
         have n10_:=Am ((by rw [hg];exact Nat.ne_of_gt (blk_lt (bB BK152.out)):gb177 ≠ gb152))
         have n11_:=Am ((by rw [hg];exact Nat.ne_of_lt (blk_lt (bB BK153.out)):gb153 ≠ gb177))
         have n12_:=Am ((by rw [hg];exact Nat.ne_of_gt (blk_lt (bB BK153.out)):gb177 ≠ gb153))
         clear HO_8
         clear HO_9
         clear HO176
         clear BK152
         clear BK153
         clear HB
         have HO_8:=n0_
         have HO_9:=n1_
         have HO176:=n2_
         have BK152:=n3_
         have BK153:=n4_
         have HB:=n5_
         have BK177:=n6_
         have GW177:=n7_
         have GE177:=n8_
         have NB152_177:=n9_
         have NB177_152:=n10_
         have NB153_177:=n11_
         have NB177_153:=n12_
         clear n0_ n1_ n2_ n3_ n4_ n5_ n6_ n7_ n8_ n9_ n10_ n11_ n12_
         clear hb hbox hg
         refine hK.out _ _ ⟨bM BK152.out 0 rfl,bM BK152.out 1 rfl,bM BK152.out 2 rfl,bM BK152.out 3 rfl⟩ (fun hHeld=>?_)
         clear hK K
         refine norm_ (a':=?_) ?_ ?_
         rotate_left
         ·show Act.put _ (some 15) _ = _
          simp only [Act.put,lT,lZ,lS,i64_w,i32_w]
          rfl
         exact norm_ (by simp only [putAll,Act.put,lT,lZ,lS]) (hCont (.slice Ao36 t174.length co36,gb177) _ ⟨hHeld,(by (with_reducible repeat (first|apply rA|apply rN|apply rD));exact Kd.R_mono HO176.out (fun _ hk=>⟨hk.1.2,hk.2⟩)),(by (with_reducible repeat (first|apply rA|apply rN|apply rD));exact Kd.R_mono HO_8.out (fun _ hk=>⟨hk.2,hk.1⟩)),(by (with_reducible repeat (first|apply rA|apply rN|apply rD));exact Kd.R_mono HO_9.out (fun _ hk=>⟨hk.2,hk.1⟩)),(bB BK152.out),(bB BK153.out),(bB BK177.out),GW177.out,GE177.out,NB152_177.out,NB177_152.out,NB153_177.out,NB177_153.out,(by repeat (first|(with_reducible first|exact HB.out|apply bA|apply bN|apply bD|refine bS ?_ GE152.out|refine bS ?_ GE153.out|refine bS ?_ GE177.out)|exact HB.out))⟩)
        ·skip
         refine box_step ?hg (N:=15) ?hd (cs:=#[.string (⟨#[]⟩:ByteArray), .slice none 0 0, .bool false, .string (⟨#[]⟩:ByteArray)]) (t:=25) ?hr ?_;(case hd=>rfl);(case hg=>rfl);(case hr=>(go_simp <;> rfl))
         intro gb177 hg w35 hbox hb
         have n0_:=bH HO_8 hb
         have n1_:=bH HO_9 hb
         have n2_:=Am (blk_below (bB BK152.out) hb)
         have n3_:=Am (blk_below (bB BK153.out) hb)
         have n4_:=Am (bT (by repeat (first|(with_reducible first|exact HB.out|apply bA|apply bN|apply bD|refine bS ?_ GE152.out|refine bS ?_ GE153.out)|exact HB.out)) hb)
         have n5_:=Am (hbox)
         have n6_:=Am ((by rw [hg];exact (bU (by repeat (first|(with_reducible first|exact HB.out|apply bA|apply bN|apply bD|refine bS ?_ GE152.out|refine bS ?_ GE153.out)|exact HB.out))):w.heap.size ≤ gb177))
         have n7_:=Am ((by rw [hg];exact (bU (by repeat (first|(with_reducible first|exact HB.out|apply bA|apply bN|apply bD|refine bS ?_ GE152.out|refine bS ?_ GE153.out)|exact HB.out))):w.heap.size ≤ gb177))
         have n8_:=Am ((by rw [hg];exact Nat.ne_of_lt (blk_lt (bB BK152.out)):gb152 ≠ gb177))
         have n9_:=Am ((by rw [hg];exact Nat.ne_of_gt (blk_lt (bB BK152.out)):gb177 ≠ gb152))
         have n10_:=Am ((by rw [hg];exact Nat.ne_of_lt (blk_lt (bB BK153.out)):gb153 ≠ gb177))
         have n11_:=Am ((by rw [hg];exact Nat.ne_of_gt (blk_lt (bB BK153.out)):gb177 ≠ gb153))
         clear HO_8
         clear HO_9
         clear BK152
         clear BK153
         clear HB
         have HO_8:=n0_
         have HO_9:=n1_
         have BK152:=n2_
         have BK153:=n3_
         have HB:=n4_
         have BK177:=n5_
         have GW177:=n6_
         have GE177:=n7_
         have NB152_177:=n8_
         have NB177_152:=n9_
         have NB153_177:=n10_
         have NB177_153:=n11_
         clear n0_ n1_ n2_ n3_ n4_ n5_ n6_ n7_ n8_ n9_ n10_ n11_
         clear hb hbox hg
         refine hK.out _ _ ⟨bM BK152.out 0 rfl,bM BK152.out 1 rfl,bM BK152.out 2 rfl,bM BK152.out 3 rfl⟩ (fun hHeld=>?_)
         clear hK K
         refine norm_ (a':=?_) ?_ ?_
         rotate_left
         ·show Act.put _ (some 15) _ = _
          simp only [Act.put,lT,lZ,lS,i64_w,i32_w]
          rfl
         refine one_ (i:=3) (N:=some 57) #[true,true,true,true,true,true,false,true,false] rfl rfl (one_of HT_.out (by kernel_rfl)) (by decide) (fun K hK=>?_)
         refine goes_ Tryd.func61 (by kernel_rfl) rfl #[.slice Ao33 x8_1.length co33] (by rfl) rfl rfl (by (try simp only [List.map_toArray,List.map_cons,List.map_nil]);first|done|rfl|(simp only [List.length_drop,List.length_take];rfl)) ?_
         with_reducible refine (spec_PathClean.calls k1 _ _ x8_1 t174 _ ?side1 ?side2 A27.out).mono ?_
         (case side1=>repeat (first|exact (Kd.R_reads' HO_8.out).2.2|(with_reducible refine bC ?_)))
         (case side2=>exact (Kd.R_reads' HO_8.out).2.1)
         rintro e w36 ⟨v175,rfl,ho0,hb⟩
         refine ⟨_,rfl,?_⟩
         have n0_:=Am (Kd.R_elder' (bR HO_8.out) (Kd.R_base ho0) hb)
         have n1_:=Am (Kd.R_elder' (bR HO_9.out) (Kd.R_base ho0) hb)
         have n2_:=Am (Kd.R_lower (Kd.R_new' (Kd.R_new' ho0 (Kd.R_lt (bR HO_8.out))) (Kd.R_lt (bR HO_9.out))) (bU (by repeat (first|(with_reducible first|exact HB.out|apply bA|apply bN|apply bD|refine bS ?_ GE152.out|refine bS ?_ GE153.out|refine bS ?_ GE177.out)|exact HB.out))))
         have n3_:=Am (blk_below (bB BK152.out) hb)
         have n4_:=Am (blk_below (bB BK153.out) hb)
         have n5_:=Am (blk_below (bB BK177.out) hb)
         have n6_:=Am (bT (by repeat (first|(with_reducible first|exact HB.out|apply bA|apply bN|apply bD|refine bS ?_ GE152.out|refine bS ?_ GE153.out|refine bS ?_ GE177.out)|exact HB.out)) hb)
         clear HO_8
         clear HO_9
         clear BK152
         clear BK153
         clear BK177
         clear HB
         have HO_8:=n0_
         have HO_9:=n1_
         have HO176:=n2_
         have BK152:=n3_
         have BK153:=n4_
         have BK177:=n5_
         have HB:=n6_
         clear n0_ n1_ n2_ n3_ n4_ n5_ n6_
         (try clear hb)
         (try clear hb2)
         (try clear hk)
         (try clear hi)
         (try clear ho0)
         obtain ⟨Ao37,co37,eo37⟩:=Kd.R_slice HO176.out
         (first|subst eo37|(injection eo37 with f1_ f2_ f3_;have f4_:=f1_.symm;have f5_:=f3_.symm;clear f1_ f2_ f3_;subst f4_;subst f5_))
         refine hK.out _ _ ⟨bM BK152.out 0 rfl,bM BK152.out 1 rfl,bM BK152.out 2 rfl,bM BK152.out 3 rfl⟩ (fun hHeld=>?_)
         clear hK K
         refine norm_ (a':=?_) ?_ ?_
         rotate_left
         ·show Act.put _ (some 57) _ = _
          simp only [Act.put,lT,lZ,lS,i64_w,i32_w]
          rfl
         refine pure_ (i:=6) (N:=some 60) (v:=?_) (a':=?_) #[true,true,true,true,true,true,true,true,false] rfl rfl (any_of HT_.out (by kernel_rfl)) (fun _ _ _ h=>h) (Or.inl ⟨by rfl,?_⟩) ?_ ?_
         rotate_left
         ·intro w'
          go_simp
          with_reducible rfl
         rotate_left
         ·simp only [Act.put,lT,lZ,lS,i64_w,i32_w]
          rfl
         exact norm_ (by simp only [putAll,Act.put,lT,lZ,lS]) (hCont (.slice Ao37 t174.length co37,gb177) _ ⟨hHeld,(by (with_reducible repeat (first|apply rA|apply rN|apply rD));exact Kd.R_mono HO176.out (fun _ hk=>⟨hk.1.2,hk.2⟩)),(by (with_reducible repeat (first|apply rA|apply rN|apply rD));exact Kd.R_mono HO_8.out (fun _ hk=>⟨hk.2,hk.1⟩)),(by (with_reducible repeat (first|apply rA|apply rN|apply rD));exact Kd.R_mono HO_9.out (fun _ hk=>⟨hk.2,hk.1⟩)),(bB BK152.out),(bB BK153.out),(bB BK177.out),GW177.out,GE177.out,NB152_177.out,NB177_152.out,NB153_177.out,NB177_153.out,(by repeat (first|(with_reducible first|exact HB.out|apply bA|apply bN|apply bD|refine bS ?_ GE152.out|refine bS ?_ GE153.out|refine bS ?_ GE177.out)|exact HB.out))⟩)
       rintro ⟨v175,gb177⟩ w38 ⟨hS_,h0_,h1_,h2_,h3_,h4_,h5_,h6_,h7_,h8_,h9_,h10_,h11_,h12_⟩
       have n0_:Aside0 (Kd.R Kd.string 9 w38 w.heap.size (fun k_=>some k_ ≠ (.slice Ao33 x8_1.length co33:Value).ownBlock ∧ some k_ ≠ (.slice Ao31 t163.length co31:Value).ownBlock) v175 t174):=⟨h0_⟩
       have n1_:Aside0 (Kd.R Kd.string 9 w38 w.heap.size (fun k_=>some k_ ≠ (v175:Value).ownBlock ∧ some k_ ≠ (.slice Ao31 t163.length co31:Value).ownBlock) (.slice Ao33 x8_1.length co33) x8_1):=⟨h1_⟩
       have n2_:Aside0 (Kd.R Kd.string 9 w38 w.heap.size (fun k_=>some k_ ≠ (v175:Value).ownBlock ∧ some k_ ≠ (.slice Ao33 x8_1.length co33:Value).ownBlock) (.slice Ao31 t163.length co31) t163):=⟨h2_⟩
       have n3_:Aside0 (w38.heap[gb152]? = some (.cells #[.string a0_0, .slice A0_1 l0_1.length c0_1, .bool a0_2, .string a0_3] 25 (0,0))):=⟨h3_⟩
       have n4_:Aside0 (w38.heap[gb153]? = some (.cells #[.string x154000_1, .slice none 0 0, .bool x154002_1, .string x154003_1] 25 (0,0))):=⟨h4_⟩
       have n5_:Aside0 (w38.heap[gb177]? = some (.cells #[.string (⟨#[]⟩:ByteArray), .slice none 0 0, .bool false, .string (⟨#[]⟩:ByteArray)] 25 (0,0))):=⟨h5_⟩
       have n6_:Aside0 (w.heap.size ≤ gb177):=⟨h6_⟩
       have n7_:Aside0 (w.heap.size ≤ gb177):=⟨h7_⟩
       have n8_:Aside0 (gb152 ≠ gb177):=⟨h8_⟩
       have n9_:Aside0 (gb177 ≠ gb152):=⟨h9_⟩
       have n10_:Aside0 (gb153 ≠ gb177):=⟨h10_⟩
       have n11_:Aside0 (gb177 ≠ gb153):=⟨h11_⟩
       have n12_:Aside0 (Below w.heap.size w w38):=⟨h12_⟩
       clear HO_8
       clear HO_9
       clear BK152
       clear BK153
       clear HB
       clear h0_ h1_ h2_ h3_ h4_ h5_ h6_ h7_ h8_ h9_ h10_ h11_ h12_
       have HO176:=n0_
       have HO_8:=n1_
       have HO_9:=n2_
       have BK152:=n3_
       have BK153:=n4_
       have BK177:=n5_
       have GW177:=n6_
       have GE177:=n7_
       have NB152_177:=n8_
       have NB177_152:=n9_
       have NB153_177:=n10_
       have NB177_153:=n11_
       have HB:=n12_
       clear n0_ n1_ n2_ n3_ n4_ n5_ n6_ n7_ n8_ n9_ n10_ n11_ n12_
       have hHeld:w38.cell? ⟨gb152,0,none⟩ = some (.string a0_0) ∧ w38.cell? ⟨gb152,1,none⟩ = some (.slice A0_1 l0_1.length c0_1) ∧ w38.cell? ⟨gb152,2,none⟩ = some (.bool a0_2) ∧ w38.cell? ⟨gb152,3,none⟩ = some (.string a0_3):=hS_
       obtain ⟨Ao39,co39,eo39⟩:=Kd.R_slice HO176.out
       (first|subst eo39|(injection eo39 with f1_ f2_ f3_;have f4_:=f1_.symm;have f5_:=f3_.symm;clear f1_ f2_ f3_;subst f4_;subst f5_))
       refine norm_ (a':=?_) ?_ ?_
       rotate_left
       ·simp only [putAll,Act.put,lT,lZ,lS]
        rfl
       refine one_ (i:=8) (N:=none) #[true,true,true,true,true,true,true,true,true] rfl rfl (one_of HT_.out (by kernel_rfl)) (by decide) (fun K hK=>?_)
       have hs40:w38.cell? ⟨gb177,0,none⟩ = some (.string (⟨#[]⟩:ByteArray)):=bM BK177.out 0 rfl
       have hfs40:=bZ BK177.out 0
       have hns40_0:=NB152_177.out
       have hns40_1:=NB153_177.out
       have hms40_0:=NB177_152.out
       have hms40_1:=NB177_153.out
       have hs41:w38.cell? ⟨gb177,1,none⟩ = some (.slice none 0 0):=bM BK177.out 1 rfl
       have hfs41:=bZ BK177.out 1
       have hns41_0:=NB152_177.out
       have hns41_1:=NB153_177.out
       have hms41_0:=NB177_152.out
       have hms41_1:=NB177_153.out
       have hs42:w38.cell? ⟨gb177,2,none⟩ = some (.bool false):=bM BK177.out 2 rfl
       have hfs42:=bZ BK177.out 2
       have hns42_0:=NB152_177.out
       have hns42_1:=NB153_177.out
       have hms42_0:=NB177_152.out
       have hms42_1:=NB177_153.out
       have hs43:w38.cell? ⟨gb177,3,none⟩ = some (.string (⟨#[]⟩:ByteArray)):=bM BK177.out 3 rfl
       have hfs43:=bZ BK177.out 3
       have hns43_0:=NB152_177.out
       have hns43_1:=NB153_177.out
       have hms43_0:=NB177_152.out
       have hms43_1:=NB177_153.out
       refine skip_ (w1:=?_) (by rfl) rfl ?_ ?_
       rotate_left
       ·go_simp
        rfl
       refine hK.out _ _ ⟨((cell_far (p:=⟨gb177,_,none⟩) NB152_177.out _).trans (((cell_far (p:=⟨gb177,_,none⟩) NB152_177.out _).trans (((cell_far (p:=⟨gb177,_,none⟩) NB152_177.out _).trans (((cell_far (p:=⟨gb177,_,none⟩) NB152_177.out _).trans (hHeld.1)))))))),((cell_far (p:=⟨gb177,_,none⟩) NB152_177.out _).trans (((cell_far (p:=⟨gb177,_,none⟩) NB152_177.out _).trans (((cell_far (p:=⟨gb177,_,none⟩) NB152_177.out _).trans (((cell_far (p:=⟨gb177,_,none⟩) NB152_177.out _).trans (hHeld.2.1)))))))),((cell_far (p:=⟨gb177,_,none⟩) NB152_177.out _).trans (((cell_far (p:=⟨gb177,_,none⟩) NB152_177.out _).trans (((cell_far (p:=⟨gb177,_,none⟩) NB152_177.out _).trans (((cell_far (p:=⟨gb177,_,none⟩) NB152_177.out _).trans (hHeld.2.2.1)))))))),((cell_far (p:=⟨gb177,_,none⟩) NB152_177.out _).trans (((cell_far (p:=⟨gb177,_,none⟩) NB152_177.out _).trans (((cell_far (p:=⟨gb177,_,none⟩) NB152_177.out _).trans (((cell_far (p:=⟨gb177,_,none⟩) NB152_177.out _).trans (hHeld.2.2.2))))))))⟩ (fun hHeld=>?_)
       clear hK K
       refine done_ (done_of HT_.out (by kernel_rfl)) ?_
       have hnb44:=NB177_152.out
       have hnc44:=NB152_177.out
       have hnb45:=NB177_153.out
       have hnc45:=NB153_177.out
       obtain ⟨hcz46_0,hcz46_1,hcz46_2,hcz46_3,hfz46_0,hfz46_1,hfz46_2,hfz46_3⟩:=bX BK177.out







       try go_wp2_with (first|(go_at_call 15;(with_reducible refine (spec_AddrOk.calls k1 a0_0 _ _ t174 t156 t172 true _ ?side1 ?side2 A29.out).mono ?_);(case side1=>refine (Kd.R_reads' (e:=9) (base:=w.heap.size) (ok:=fun k_=>(some k_ ≠ (.slice Ao33 x8_1.length co33:Value).ownBlock ∧ some k_ ≠ (.slice Ao31 t163.length co31:Value).ownBlock)) (n:=t174.length) (c:=co39) ?_).2.2;exact (by (with_reducible repeat (first|apply rA|apply rN|apply rD));exact (bQ HO176.out BK177.out (by decide) _ _ _ _)));(case side2=>exact (Kd.R_reads' HO176.out).2.1);rintro e w47 ⟨rfl,hb⟩;have n0_:=Am (Kd.R_below (by (with_reducible repeat (first|apply rA|apply rN|apply rD));exact (bQ HO_8.out BK177.out (by decide) _ _ _ _)) hb);have n1_:=Am (Kd.R_below (by (with_reducible repeat (first|apply rA|apply rN|apply rD));exact (bQ HO_9.out BK177.out (by decide) _ _ _ _)) hb);have n2_:=Am (Kd.R_below (by (with_reducible repeat (first|apply rA|apply rN|apply rD));exact (bQ HO176.out BK177.out (by decide) _ _ _ _)) hb);have n3_:=Am (blk_below (g:=gb152) (o:=.cells #[.string a0_0, .slice A0_1 l0_1.length c0_1, .bool a0_2, .string a0_3] 25 (0,0)) (by refine bB ?_;refine bF ?_ NB152_177.out;refine bB ?_;exact BK152.out) hb);have n4_:=Am (blk_below (g:=gb153) (o:=.cells #[.string x154000_1, .slice none 0 0, .bool x154002_1, .string x154003_1] 25 (0,0)) (by refine bB ?_;refine bF ?_ NB153_177.out;refine bB ?_;exact BK153.out) hb);have n5_:=Am (blk_below (g:=gb177) (o:=.cells #[.string a0_0, .slice Ao39 t174.length co39, .bool t156, .string t172] 25 (0,0)) (by refine bB ?_;apply bP;refine bB ?_;exact BK177.out) hb);have n6_:=Am (bT (by repeat (first|(with_reducible first|exact HB.out|apply bA|apply bN|apply bD|refine bS ?_ GE152.out|refine bS ?_ GE153.out|refine bS ?_ GE177.out)|exact HB.out)) hb);clear HO_8 HO_9 HO176 BK152 BK153 BK177 HB;have HO_8:=n0_;have HO_9:=n1_;have HO176:=n2_;have BK152:=n3_;have BK153:=n4_;have BK177:=n5_;have HB:=n6_;clear n0_ n1_ n2_ n3_ n4_ n5_ n6_;(try clear hb);obtain ⟨hcz48_0,hcz48_1,hcz48_2,hcz48_3,hfz48_0,hfz48_1,hfz48_2,hfz48_3⟩:=bX BK177.out;have hnb49:=NB153_152.out;have hnc49:=NB152_153.out;obtain ⟨hcz50_0,hcz50_1,hcz50_2,hcz50_3,hfz50_0,hfz50_1,hfz50_2,hfz50_3⟩:=bX BK153.out))
       refine bodyPost_ret (results_ct rfl _ _ gb153 25 #[.string a0_0, .slice Ao39 t174.length co39, .bool t156, .string t172] (0,0) _ rfl (by refine bB ?_;apply bP;refine bB ?_;exact BK153.out) Tryd.underlying25 rfl (by kernel_rfl)) rfl ?_
       exact ⟨_,by first|rfl|(simp <;> rfl)|(simp [*] <;> rfl),by (with_reducible repeat (first|apply rA|apply rN|apply rD));exact Kd.R_mono (Kd.R_far (p:=⟨gb153,3,none⟩) (Kd.R_far (p:=⟨gb153,2,none⟩) (Kd.R_far (p:=⟨gb153,1,none⟩) (Kd.R_far (p:=⟨gb153,0,none⟩) (Kd.R_types HO176.out BK153.out (by decide)) (fun _ hk=>hk.2) (.string a0_0)) (fun _ hk=>hk.2) (.slice Ao39 t174.length co39)) (fun _ hk=>hk.2) (.bool t156)) (fun _ hk=>hk.2) (.string t172)) (fun _ hk=>trivial),by repeat (first|(with_reducible first|exact HB.out|apply bA|apply bN|apply bD|refine bS ?_ GE152.out|refine bS ?_ GE153.out|refine bS ?_ GE177.out)|exact HB.out)⟩
      ·replace c30:=Bool.eq_false_iff.mpr c30
       subst c30
       have H1:(some ((⟨#[]⟩:ByteArray),([]:List ByteArray),false,(⟨#[]⟩:ByteArray),false)) = some (r1,r2,r3,r4,r5):=by rw [if_neg (show ¬ (false = true) by decide)] at H;exact H
       clear H
       have H:=H1
       clear H1
       simp only [Option.some.injEq,Prod.mk.injEq] at H
       obtain ⟨rfl,rfl,rfl,rfl,rfl⟩:=H
       obtain ⟨Ao51,co51,eo51⟩:=Kd.R_slice HO_9.out
       subst eo51
       try go_wp2_with (first|((with_reducible refine gate_callee (f:=60) rfl ?_);refine goesL_ (some 51) rfl rfl Tryd.func60 (by kernel_rfl) rfl #[.string t155] rfl (aE1 rfl) ?_;(with_reducible refine (spec_EscNorm.calls k1 t155 t172 true _ A26.out).mono ?_);rintro e w52 ⟨rfl,hb⟩;refine ⟨_,rfl,?_⟩;have n0_:=bH HO_8 hb;have n1_:=bH HO_9 hb;have n2_:=Am (blk_below (bB BK152.out) hb);have n3_:=Am (blk_below (bB BK153.out) hb);have n4_:=Am (bT (by repeat (first|(with_reducible first|exact HB.out|apply bA|apply bN|apply bD|refine bS ?_ GE152.out|refine bS ?_ GE153.out)|exact HB.out)) hb);clear HO_8 HO_9 BK152 BK153 HB;have HO_8:=n0_;have HO_9:=n1_;have BK152:=n2_;have BK153:=n3_;have HB:=n4_;clear n0_ n1_ n2_ n3_ n4_;(try clear hb);obtain ⟨Ao53,co53,eo53⟩:=Kd.R_slice HO_8.out;subst eo53))
       have n0_:=Am (Kd.R_drew HO_8.out)
       have n1_:=Am (Kd.R_drew HO_9.out)
       have n2_:=Am (blk_drew BK152.out)
       have n3_:=Am (blk_drew BK153.out)
       have n4_:=Am (below_drew1 HB.out)
       clear HO_8
       clear HO_9
       clear BK152
       clear BK153
       clear HB
       have HO_8:=n0_
       have HO_9:=n1_
       have BK152:=n2_
       have BK153:=n3_
       have HB:=n4_
       clear n0_ n1_ n2_ n3_ n4_
       refine start_ (n:=9) (S:=fun w'=>w'.cell? ⟨gb152,0,none⟩ = some (.string a0_0) ∧ w'.cell? ⟨gb152,1,none⟩ = some (.slice A0_1 l0_1.length c0_1) ∧ w'.cell? ⟨gb152,2,none⟩ = some (.bool a0_2) ∧ w'.cell? ⟨gb152,3,none⟩ = some (.string a0_3)) (ds:=[]) #[false,false,false,false,false,false,false,false,false] (by kernel_rfl) rfl rfl ⟨bM BK152.out 0 rfl,bM BK152.out 1 rfl,bM BK152.out 2 rfl,bM BK152.out 3 rfl⟩ (fun hHeld=>?_);refine with_tabW spec_l1Way.tab12 spec_l1Way.bits12 (fun HT_ HW_=>?_)
       generalize w52.drew = w54 at HO_8 HO_9 BK152 BK153 HB hHeld ⊢
       refine pure_ (i:=0) (N:=some 54) (v:=?_) (a':=?_) #[true,false,false,false,false,false,false,false,false] rfl rfl (any_of HT_.out (by kernel_rfl)) (fun _ _ _ h=>h) (Or.inl ⟨by rfl,?_⟩) ?_ ?_
       rotate_left
       ·intro w'
        go_simp
        with_reducible rfl
       rotate_left
       ·simp only [Act.put,lT,lZ,lS,i64_w,i32_w]
        rfl
       refine pure_ (i:=2) (N:=some 56) (v:=?_) (a':=?_) #[true,false,true,false,false,false,false,false,false] rfl rfl (any_of HT_.out (by kernel_rfl)) (fun _ _ _ h=>h) (Or.inl ⟨by rfl,?_⟩) ?_ ?_
       rotate_left
       ·intro w'
        go_simp
        with_reducible rfl
       rotate_left
       ·simp only [Act.put,lT,lZ,lS,i64_w,i32_w]
        rfl
       refine pure_ (i:=4) (N:=some 58) (v:=?_) (a':=?_) #[true,false,true,false,true,false,false,false,false] rfl rfl (any_of HT_.out (by kernel_rfl)) (fun _ _ _ h=>h) (Or.inl ⟨by rfl,?_⟩) ?_ ?_
       rotate_left
       ·intro w'
        go_simp
        with_reducible rfl
       rotate_left
       ·simp only [Act.put,lT,lZ,lS,i64_w,i32_w]
        rfl
       refine pure_ (i:=5) (N:=some 59) (v:=?_) (a':=?_) #[true,false,true,false,true,true,false,false,false] rfl rfl (any_of HT_.out (by kernel_rfl)) (fun _ _ _ h=>h) (Or.inl ⟨by rfl,?_⟩) ?_ ?_
       rotate_left
       ·intro w'
        go_simp
        with_reducible rfl
       rotate_left
       ·simp only [Act.put,lT,lZ,lS,i64_w,i32_w]
        rfl
       refine take_ (i:=1) (N:=some 55) (v:=?_) (a':=?_) #[true,true,true,false,true,true,false,false,false] rfl rfl (take_ofW HT_.out HW_.out (by kernel_rfl)) (fun _ _ _ h=>h) (Or.inl ⟨by rfl,?_⟩) hHeld ?_ ?_
       rotate_left
       ·rintro w' ⟨s0,s1,s2,s3⟩
        go_simp
        with_reducible rfl
       rotate_left
       ·simp only [Act.put,lT,lZ,lS,i64_w,i32_w]
        rfl
       refine join_ (σ:=Value × Nat) 1 #[true,true,true,true,true,true,true,true,false] (fun s_=>[(57,s_.1),(15, .pointer (some ⟨s_.2,0,none⟩)),(60, .agg #[.string a0_0,s_.1, .bool t156, .string t172])]) (fun s_ w'=>(w'.cell? ⟨gb152,0,none⟩ = some (.string a0_0) ∧ w'.cell? ⟨gb152,1,none⟩ = some (.slice A0_1 l0_1.length c0_1) ∧ w'.cell? ⟨gb152,2,none⟩ = some (.bool a0_2) ∧ w'.cell? ⟨gb152,3,none⟩ = some (.string a0_3)) ∧ (Kd.R Kd.string 9 w' w.heap.size (fun k_=>some k_ ≠ (.slice Ao53 x8_1.length co53:Value).ownBlock ∧ some k_ ≠ (.slice Ao51 t163.length co51:Value).ownBlock) s_.1 t174) ∧ (Kd.R Kd.string 9 w' w.heap.size (fun k_=>some k_ ≠ (s_.1:Value).ownBlock ∧ some k_ ≠ (.slice Ao51 t163.length co51:Value).ownBlock) (.slice Ao53 x8_1.length co53) x8_1) ∧ (Kd.R Kd.string 9 w' w.heap.size (fun k_=>some k_ ≠ (s_.1:Value).ownBlock ∧ some k_ ≠ (.slice Ao53 x8_1.length co53:Value).ownBlock) (.slice Ao51 t163.length co51) t163) ∧ (w'.heap[gb152]? = some (.cells #[.string a0_0, .slice A0_1 l0_1.length c0_1, .bool a0_2, .string a0_3] 25 (0,0))) ∧ (w'.heap[gb153]? = some (.cells #[.string x154000_1, .slice none 0 0, .bool x154002_1, .string x154003_1] 25 (0,0))) ∧ (w'.heap[s_.2]? = some (.cells #[.string (⟨#[]⟩:ByteArray), .slice none 0 0, .bool false, .string (⟨#[]⟩:ByteArray)] 25 (0,0))) ∧ (w.heap.size ≤ s_.2) ∧ (w.heap.size ≤ s_.2) ∧ (gb152 ≠ s_.2) ∧ (s_.2 ≠ gb152) ∧ (gb153 ≠ s_.2) ∧ (s_.2 ≠ gb153) ∧ (Below w.heap.size w w')) ?_ ?_
       rotate_left
       ·intro hCont
        refine two_ (i:=3) (j:=7) (Ni:=some 57) (Nj:=some 15) #[true,true,true,true,true,true,false,false,false] #[true,true,true,false,true,true,false,true,false] rfl rfl rfl rfl (two_of HT_.out (by kernel_rfl)) (by decide) (by decide) (fun K hK=>?_) (fun K hK=>?_)
        ·skip
         refine goes_ Tryd.func61 (by kernel_rfl) rfl #[.slice Ao53 x8_1.length co53] (by rfl) rfl rfl (by (try simp only [List.map_toArray,List.map_cons,List.map_nil]);first|done|rfl|(simp only [List.length_drop,List.length_take];rfl)) ?_
         with_reducible refine (spec_PathClean.calls k1 _ _ x8_1 t174 _ ?side1 ?side2 A27.out).mono ?_
         (case side1=>repeat (first|exact (Kd.R_reads' HO_8.out).2.2|(with_reducible refine bC ?_)))
         (case side2=>exact (Kd.R_reads' HO_8.out).2.1)
         rintro e w55 ⟨v175,rfl,ho0,hb⟩
         refine ⟨_,rfl,?_⟩
         have n0_:=Am (Kd.R_elder' (bR HO_8.out) (Kd.R_base ho0) hb)
         have n1_:=Am (Kd.R_elder' (bR HO_9.out) (Kd.R_base ho0) hb)
         have n2_:=Am (Kd.R_lower (Kd.R_new' (Kd.R_new' ho0 (Kd.R_lt (bR HO_8.out))) (Kd.R_lt (bR HO_9.out))) (bU (by repeat (first|(with_reducible first|exact HB.out|apply bA|apply bN|apply bD|refine bS ?_ GE152.out|refine bS ?_ GE153.out)|exact HB.out))))
         have n3_:=Am (blk_below (bB BK152.out) hb)
         have n4_:=Am (blk_below (bB BK153.out) hb)
         have n5_:=Am (bT (by repeat (first|(with_reducible first|exact HB.out|apply bA|apply bN|apply bD|refine bS ?_ GE152.out|refine bS ?_ GE153.out)|exact HB.out)) hb)
         clear HO_8
         clear HO_9
         clear BK152
         clear BK153
         clear HB
         have HO_8:=n0_
         have HO_9:=n1_
         have HO176:=n2_
         have BK152:=n3_
         have BK153:=n4_
         have HB:=n5_
         clear n0_ n1_ n2_ n3_ n4_ n5_
         (try clear hb)
         (try clear hb2)
         (try clear hk)
         (try clear hi)
         (try clear ho0)
         obtain ⟨Ao56,co56,eo56⟩:=Kd.R_slice HO176.out
         (first|subst eo56|(injection eo56 with f1_ f2_ f3_;have f4_:=f1_.symm;have f5_:=f3_.symm;clear f1_ f2_ f3_;subst f4_;subst f5_))
         refine hK.out _ _ ⟨bM BK152.out 0 rfl,bM BK152.out 1 rfl,bM BK152.out 2 rfl,bM BK152.out 3 rfl⟩ (fun hHeld=>?_)
         clear hK K
         refine norm_ (a':=?_) ?_ ?_
         rotate_left
         ·show Act.put _ (some 57) _ = _
          simp only [Act.put,lT,lZ,lS,i64_w,i32_w]
          rfl
         refine pure_ (i:=6) (N:=some 60) (v:=?_) (a':=?_) #[true,true,true,true,true,true,true,false,false] rfl rfl (any_of HT_.out (by kernel_rfl)) (fun _ _ _ h=>h) (Or.inl ⟨by rfl,?_⟩) ?_ ?_
         rotate_left
         ·intro w'
          go_simp
          with_reducible rfl
         rotate_left
         ·simp only [Act.put,lT,lZ,lS,i64_w,i32_w]
          rfl
         refine one_ (i:=7) (N:=some 15) #[true,true,true,true,true,true,true,true,false] rfl rfl (one_of HT_.out (by kernel_rfl)) (by decide) (fun K hK=>?_)
         refine box_step ?hg (N:=15) ?hd (cs:=#[.string (⟨#[]⟩:ByteArray), .slice none 0 0, .bool false, .string (⟨#[]⟩:ByteArray)]) (t:=25) ?hr ?_;(case hd=>rfl);(case hg=>rfl);(case hr=>(go_simp <;> rfl))
         intro gb177 hg w57 hbox hb
         have n0_:=bH HO_8 hb
         have n1_:=bH HO_9 hb
         have n2_:=bH HO176 hb
         have n3_:=Am (blk_below (bB BK152.out) hb)
         have n4_:=Am (blk_below (bB BK153.out) hb)
         have n5_:=Am (bT (by repeat (first|(with_reducible first|exact HB.out|apply bA|apply bN|apply bD|refine bS ?_ GE152.out|refine bS ?_ GE153.out)|exact HB.out)) hb)
         have n6_:=Am (hbox)
         have n7_:=Am ((by rw [hg];exact (bU (by repeat (first|(with_reducible first|exact HB.out|apply bA|apply bN|apply bD|refine bS ?_ GE152.out|refine bS ?_ GE153.out)|exact HB.out))):w.heap.size ≤ gb177))
         have n8_:=Am ((by rw [hg];exact (bU (by repeat (first|(with_reducible first|exact HB.out|apply bA|apply bN|apply bD|refine bS ?_ GE152.out|refine bS ?_ GE153.out)|exact HB.out))):w.heap.size ≤ gb177))
         have n9_:=Am ((by rw [hg];exact Nat.ne_of_lt (blk_lt (bB BK152.out)):gb152 ≠ gb177))
         have n10_:=Am ((by rw [hg];exact Nat.ne_of_gt (blk_lt (bB BK152.out)):gb177 ≠ gb152))
         have n11_:=Am ((by rw [hg];exact Nat.ne_of_lt (blk_lt (bB BK153.out)):gb153 ≠ gb177))
         have n12_:=Am ((by rw [hg];exact Nat.ne_of_gt (blk_lt (bB BK153.out)):gb177 ≠ gb153))
         clear HO_8
         clear HO_9
         clear HO176
         clear BK152
         clear BK153
         clear HB
         have HO_8:=n0_
         have HO_9:=n1_
         have HO176:=n2_
         have BK152:=n3_
         have BK153:=n4_
         have HB:=n5_
         have BK177:=n6_
         have GW177:=n7_
         have GE177:=n8_
         have NB152_177:=n9_
         have NB177_152:=n10_
         have NB153_177:=n11_
         have NB177_153:=n12_
         clear n0_ n1_ n2_ n3_ n4_ n5_ n6_ n7_ n8_ n9_ n10_ n11_ n12_
         clear hb hbox hg
         refine hK.out _ _ ⟨bM BK152.out 0 rfl,bM BK152.out 1 rfl,bM BK152.out 2 rfl,bM BK152.out 3 rfl⟩ (fun hHeld=>?_)
         clear hK K
         refine norm_ (a':=?_) ?_ ?_
         rotate_left
         ·show Act.put _ (some 15) _ = _
          simp only [Act.put,lT,lZ,lS,i64_w,i32_w]
          rfl
         exact norm_ (by simp only [putAll,Act.put,lT,lZ,lS]) (hCont (.slice Ao56 t174.length co56,gb177) _ ⟨hHeld,(by (with_reducible repeat (first|apply rA|apply rN|apply rD));exact Kd.R_mono HO176.out (fun _ hk=>⟨hk.1.2,hk.2⟩)),(by (with_reducible repeat (first|apply rA|apply rN|apply rD));exact Kd.R_mono HO_8.out (fun _ hk=>⟨hk.2,hk.1⟩)),(by (with_reducible repeat (first|apply rA|apply rN|apply rD));exact Kd.R_mono HO_9.out (fun _ hk=>⟨hk.2,hk.1⟩)),(bB BK152.out),(bB BK153.out),(bB BK177.out),GW177.out,GE177.out,NB152_177.out,NB177_152.out,NB153_177.out,NB177_153.out,(by repeat (first|(with_reducible first|exact HB.out|apply bA|apply bN|apply bD|refine bS ?_ GE152.out|refine bS ?_ GE153.out|refine bS ?_ GE177.out)|exact HB.out))⟩)
        ·skip
         refine box_step ?hg (N:=15) ?hd (cs:=#[.string (⟨#[]⟩:ByteArray), .slice none 0 0, .bool false, .string (⟨#[]⟩:ByteArray)]) (t:=25) ?hr ?_;(case hd=>rfl);(case hg=>rfl);(case hr=>(go_simp <;> rfl))
         intro gb177 hg w55 hbox hb
         have n0_:=bH HO_8 hb
         have n1_:=bH HO_9 hb
         have n2_:=Am (blk_below (bB BK152.out) hb)
         have n3_:=Am (blk_below (bB BK153.out) hb)
         have n4_:=Am (bT (by repeat (first|(with_reducible first|exact HB.out|apply bA|apply bN|apply bD|refine bS ?_ GE152.out|refine bS ?_ GE153.out)|exact HB.out)) hb)
         have n5_:=Am (hbox)
         have n6_:=Am ((by rw [hg];exact (bU (by repeat (first|(with_reducible first|exact HB.out|apply bA|apply bN|apply bD|refine bS ?_ GE152.out|refine bS ?_ GE153.out)|exact HB.out))):w.heap.size ≤ gb177))
         have n7_:=Am ((by rw [hg];exact (bU (by repeat (first|(with_reducible first|exact HB.out|apply bA|apply bN|apply bD|refine bS ?_ GE152.out|refine bS ?_ GE153.out)|exact HB.out))):w.heap.size ≤ gb177))
         have n8_:=Am ((by rw [hg];exact Nat.ne_of_lt (blk_lt (bB BK152.out)):gb152 ≠ gb177))
         have n9_:=Am ((by rw [hg];exact Nat.ne_of_gt (blk_lt (bB BK152.out)):gb177 ≠ gb152))
         have n10_:=Am ((by rw [hg];exact Nat.ne_of_lt (blk_lt (bB BK153.out)):gb153 ≠ gb177))
         have n11_:=Am ((by rw [hg];exact Nat.ne_of_gt (blk_lt (bB BK153.out)):gb177 ≠ gb153))
         clear HO_8
         clear HO_9
         clear BK152
         clear BK153
         clear HB
         have HO_8:=n0_
         have HO_9:=n1_
         have BK152:=n2_
         have BK153:=n3_
         have HB:=n4_
         have BK177:=n5_
         have GW177:=n6_
         have GE177:=n7_
         have NB152_177:=n8_
         have NB177_152:=n9_
         have NB153_177:=n10_
         have NB177_153:=n11_
         clear n0_ n1_ n2_ n3_ n4_ n5_ n6_ n7_ n8_ n9_ n10_ n11_
         clear hb hbox hg
         refine hK.out _ _ ⟨bM BK152.out 0 rfl,bM BK152.out 1 rfl,bM BK152.out 2 rfl,bM BK152.out 3 rfl⟩ (fun hHeld=>?_)
         clear hK K
         refine norm_ (a':=?_) ?_ ?_
         rotate_left
         ·show Act.put _ (some 15) _ = _
          simp only [Act.put,lT,lZ,lS,i64_w,i32_w]
          rfl
         refine one_ (i:=3) (N:=some 57) #[true,true,true,true,true,true,false,true,false] rfl rfl (one_of HT_.out (by kernel_rfl)) (by decide) (fun K hK=>?_)
         refine goes_ Tryd.func61 (by kernel_rfl) rfl #[.slice Ao53 x8_1.length co53] (by rfl) rfl rfl (by (try simp only [List.map_toArray,List.map_cons,List.map_nil]);first|done|rfl|(simp only [List.length_drop,List.length_take];rfl)) ?_
         with_reducible refine (spec_PathClean.calls k1 _ _ x8_1 t174 _ ?side1 ?side2 A27.out).mono ?_
         (case side1=>repeat (first|exact (Kd.R_reads' HO_8.out).2.2|(with_reducible refine bC ?_)))
         (case side2=>exact (Kd.R_reads' HO_8.out).2.1)
         rintro e w56 ⟨v175,rfl,ho0,hb⟩
         refine ⟨_,rfl,?_⟩
         have n0_:=Am (Kd.R_elder' (bR HO_8.out) (Kd.R_base ho0) hb)
         have n1_:=Am (Kd.R_elder' (bR HO_9.out) (Kd.R_base ho0) hb)
         have n2_:=Am (Kd.R_lower (Kd.R_new' (Kd.R_new' ho0 (Kd.R_lt (bR HO_8.out))) (Kd.R_lt (bR HO_9.out))) (bU (by repeat (first|(with_reducible first|exact HB.out|apply bA|apply bN|apply bD|refine bS ?_ GE152.out|refine bS ?_ GE153.out|refine bS ?_ GE177.out)|exact HB.out))))
         have n3_:=Am (blk_below (bB BK152.out) hb)
         have n4_:=Am (blk_below (bB BK153.out) hb)
         have n5_:=Am (blk_below (bB BK177.out) hb)
         have n6_:=Am (bT (by repeat (first|(with_reducible first|exact HB.out|apply bA|apply bN|apply bD|refine bS ?_ GE152.out|refine bS ?_ GE153.out|refine bS ?_ GE177.out)|exact HB.out)) hb)
         clear HO_8
         clear HO_9
         clear BK152
         clear BK153
         clear BK177
         clear HB
         have HO_8:=n0_
         have HO_9:=n1_
         have HO176:=n2_
         have BK152:=n3_
         have BK153:=n4_
         have BK177:=n5_
         have HB:=n6_
         clear n0_ n1_ n2_ n3_ n4_ n5_ n6_
         (try clear hb)
         (try clear hb2)
         (try clear hk)
         (try clear hi)
         (try clear ho0)
         obtain ⟨Ao57,co57,eo57⟩:=Kd.R_slice HO176.out
         (first|subst eo57|(injection eo57 with f1_ f2_ f3_;have f4_:=f1_.symm;have f5_:=f3_.symm;clear f1_ f2_ f3_;subst f4_;subst f5_))
         refine hK.out _ _ ⟨bM BK152.out 0 rfl,bM BK152.out 1 rfl,bM BK152.out 2 rfl,bM BK152.out 3 rfl⟩ (fun hHeld=>?_)
         clear hK K
         refine norm_ (a':=?_) ?_ ?_
         rotate_left
         ·show Act.put _ (some 57) _ = _
          simp only [Act.put,lT,lZ,lS,i64_w,i32_w]
          rfl
         refine pure_ (i:=6) (N:=some 60) (v:=?_) (a':=?_) #[true,true,true,true,true,true,true,true,false] rfl rfl (any_of HT_.out (by kernel_rfl)) (fun _ _ _ h=>h) (Or.inl ⟨by rfl,?_⟩) ?_ ?_
         rotate_left
         ·intro w'
          go_simp
          with_reducible rfl
         rotate_left
         ·simp only [Act.put,lT,lZ,lS,i64_w,i32_w]
          rfl
         exact norm_ (by simp only [putAll,Act.put,lT,lZ,lS]) (hCont (.slice Ao57 t174.length co57,gb177) _ ⟨hHeld,(by (with_reducible repeat (first|apply rA|apply rN|apply rD));exact Kd.R_mono HO176.out (fun _ hk=>⟨hk.1.2,hk.2⟩)),(by (with_reducible repeat (first|apply rA|apply rN|apply rD));exact Kd.R_mono HO_8.out (fun _ hk=>⟨hk.2,hk.1⟩)),(by (with_reducible repeat (first|apply rA|apply rN|apply rD));exact Kd.R_mono HO_9.out (fun _ hk=>⟨hk.2,hk.1⟩)),(bB BK152.out),(bB BK153.out),(bB BK177.out),GW177.out,GE177.out,NB152_177.out,NB177_152.out,NB153_177.out,NB177_153.out,(by repeat (first|(with_reducible first|exact HB.out|apply bA|apply bN|apply bD|refine bS ?_ GE152.out|refine bS ?_ GE153.out|refine bS ?_ GE177.out)|exact HB.out))⟩)
       rintro ⟨v175,gb177⟩ w58 ⟨hS_,h0_,h1_,h2_,h3_,h4_,h5_,h6_,h7_,h8_,h9_,h10_,h11_,h12_⟩
       have n0_:Aside0 (Kd.R Kd.string 9 w58 w.heap.size (fun k_=>some k_ ≠ (.slice Ao53 x8_1.length co53:Value).ownBlock ∧ some k_ ≠ (.slice Ao51 t163.length co51:Value).ownBlock) v175 t174):=⟨h0_⟩
       have n1_:Aside0 (Kd.R Kd.string 9 w58 w.heap.size (fun k_=>some k_ ≠ (v175:Value).ownBlock ∧ some k_ ≠ (.slice Ao51 t163.length co51:Value).ownBlock) (.slice Ao53 x8_1.length co53) x8_1):=⟨h1_⟩
       have n2_:Aside0 (Kd.R Kd.string 9 w58 w.heap.size (fun k_=>some k_ ≠ (v175:Value).ownBlock ∧ some k_ ≠ (.slice Ao53 x8_1.length co53:Value).ownBlock) (.slice Ao51 t163.length co51) t163):=⟨h2_⟩
       have n3_:Aside0 (w58.heap[gb152]? = some (.cells #[.string a0_0, .slice A0_1 l0_1.length c0_1, .bool a0_2, .string a0_3] 25 (0,0))):=⟨h3_⟩
       have n4_:Aside0 (w58.heap[gb153]? = some (.cells #[.string x154000_1, .slice none 0 0, .bool x154002_1, .string x154003_1] 25 (0,0))):=⟨h4_⟩
       have n5_:Aside0 (w58.heap[gb177]? = some (.cells #[.string (⟨#[]⟩:ByteArray), .slice none 0 0, .bool false, .string (⟨#[]⟩:ByteArray)] 25 (0,0))):=⟨h5_⟩
       have n6_:Aside0 (w.heap.size ≤ gb177):=⟨h6_⟩
       have n7_:Aside0 (w.heap.size ≤ gb177):=⟨h7_⟩
       have n8_:Aside0 (gb152 ≠ gb177):=⟨h8_⟩
       have n9_:Aside0 (gb177 ≠ gb152):=⟨h9_⟩
       have n10_:Aside0 (gb153 ≠ gb177):=⟨h10_⟩
       have n11_:Aside0 (gb177 ≠ gb153):=⟨h11_⟩
       have n12_:Aside0 (Below w.heap.size w w58):=⟨h12_⟩
       clear HO_8
       clear HO_9
       clear BK152
       clear BK153
       clear HB
       clear h0_ h1_ h2_ h3_ h4_ h5_ h6_ h7_ h8_ h9_ h10_ h11_ h12_
       have HO176:=n0_
       have HO_8:=n1_
       have HO_9:=n2_
       have BK152:=n3_
       have BK153:=n4_
       have BK177:=n5_
       have GW177:=n6_
       have GE177:=n7_
       have NB152_177:=n8_
       have NB177_152:=n9_
       have NB153_177:=n10_
       have NB177_153:=n11_
       have HB:=n12_
       clear n0_ n1_ n2_ n3_ n4_ n5_ n6_ n7_ n8_ n9_ n10_ n11_ n12_
       have hHeld:w58.cell? ⟨gb152,0,none⟩ = some (.string a0_0) ∧ w58.cell? ⟨gb152,1,none⟩ = some (.slice A0_1 l0_1.length c0_1) ∧ w58.cell? ⟨gb152,2,none⟩ = some (.bool a0_2) ∧ w58.cell? ⟨gb152,3,none⟩ = some (.string a0_3):=hS_
       obtain ⟨Ao59,co59,eo59⟩:=Kd.R_slice HO176.out
       (first|subst eo59|(injection eo59 with f1_ f2_ f3_;have f4_:=f1_.symm;have f5_:=f3_.symm;clear f1_ f2_ f3_;subst f4_;subst f5_))
       refine norm_ (a':=?_) ?_ ?_
       rotate_left
       ·simp only [putAll,Act.put,lT,lZ,lS]
        rfl
       refine one_ (i:=8) (N:=none) #[true,true,true,true,true,true,true,true,true] rfl rfl (one_of HT_.out (by kernel_rfl)) (by decide) (fun K hK=>?_)
       have hs60:w58.cell? ⟨gb177,0,none⟩ = some (.string (⟨#[]⟩:ByteArray)):=bM BK177.out 0 rfl
       have hfs60:=bZ BK177.out 0
       have hns60_0:=NB152_177.out
       have hns60_1:=NB153_177.out
       have hms60_0:=NB177_152.out
       have hms60_1:=NB177_153.out
       have hs61:w58.cell? ⟨gb177,1,none⟩ = some (.slice none 0 0):=bM BK177.out 1 rfl
       have hfs61:=bZ BK177.out 1
       have hns61_0:=NB152_177.out
       have hns61_1:=NB153_177.out
       have hms61_0:=NB177_152.out
       have hms61_1:=NB177_153.out
       have hs62:w58.cell? ⟨gb177,2,none⟩ = some (.bool false):=bM BK177.out 2 rfl
       have hfs62:=bZ BK177.out 2
       have hns62_0:=NB152_177.out
       have hns62_1:=NB153_177.out
       have hms62_0:=NB177_152.out
       have hms62_1:=NB177_153.out
       have hs63:w58.cell? ⟨gb177,3,none⟩ = some (.string (⟨#[]⟩:ByteArray)):=bM BK177.out 3 rfl
       have hfs63:=bZ BK177.out 3
       have hns63_0:=NB152_177.out
       have hns63_1:=NB153_177.out
       have hms63_0:=NB177_152.out
       have hms63_1:=NB177_153.out
       refine skip_ (w1:=?_) (by rfl) rfl ?_ ?_
       rotate_left
       ·go_simp
        rfl
       refine hK.out _ _ ⟨((cell_far (p:=⟨gb177,_,none⟩) NB152_177.out _).trans (((cell_far (p:=⟨gb177,_,none⟩) NB152_177.out _).trans (((cell_far (p:=⟨gb177,_,none⟩) NB152_177.out _).trans (((cell_far (p:=⟨gb177,_,none⟩) NB152_177.out _).trans (hHeld.1)))))))),((cell_far (p:=⟨gb177,_,none⟩) NB152_177.out _).trans (((cell_far (p:=⟨gb177,_,none⟩) NB152_177.out _).trans (((cell_far (p:=⟨gb177,_,none⟩) NB152_177.out _).trans (((cell_far (p:=⟨gb177,_,none⟩) NB152_177.out _).trans (hHeld.2.1)))))))),((cell_far (p:=⟨gb177,_,none⟩) NB152_177.out _).trans (((cell_far (p:=⟨gb177,_,none⟩) NB152_177.out _).trans (((cell_far (p:=⟨gb177,_,none⟩) NB152_177.out _).trans (((cell_far (p:=⟨gb177,_,none⟩) NB152_177.out _).trans (hHeld.2.2.1)))))))),((cell_far (p:=⟨gb177,_,none⟩) NB152_177.out _).trans (((cell_far (p:=⟨gb177,_,none⟩) NB152_177.out _).trans (((cell_far (p:=⟨gb177,_,none⟩) NB152_177.out _).trans (((cell_far (p:=⟨gb177,_,none⟩) NB152_177.out _).trans (hHeld.2.2.2))))))))⟩ (fun hHeld=>?_)
       clear hK K
       refine done_ (done_of HT_.out (by kernel_rfl)) ?_
       have hnb64:=NB177_152.out
       have hnc64:=NB152_177.out
       have hnb65:=NB177_153.out
       have hnc65:=NB153_177.out
       obtain ⟨hcz66_0,hcz66_1,hcz66_2,hcz66_3,hfz66_0,hfz66_1,hfz66_2,hfz66_3⟩:=bX BK177.out







       try go_wp2_with (first|(go_at_call 15;(with_reducible refine (spec_AddrOk.calls k1 a0_0 _ _ t174 t156 t172 false _ ?side1 ?side2 A29.out).mono ?_);(case side1=>refine (Kd.R_reads' (e:=9) (base:=w.heap.size) (ok:=fun k_=>(some k_ ≠ (.slice Ao53 x8_1.length co53:Value).ownBlock ∧ some k_ ≠ (.slice Ao51 t163.length co51:Value).ownBlock)) (n:=t174.length) (c:=co59) ?_).2.2;exact (by (with_reducible repeat (first|apply rA|apply rN|apply rD));exact (bQ HO176.out BK177.out (by decide) _ _ _ _)));(case side2=>exact (Kd.R_reads' HO176.out).2.1);rintro e w67 ⟨rfl,hb⟩;have n0_:=Am (Kd.R_below (by (with_reducible repeat (first|apply rA|apply rN|apply rD));exact (bQ HO_8.out BK177.out (by decide) _ _ _ _)) hb);have n1_:=Am (Kd.R_below (by (with_reducible repeat (first|apply rA|apply rN|apply rD));exact (bQ HO_9.out BK177.out (by decide) _ _ _ _)) hb);have n2_:=Am (Kd.R_below (by (with_reducible repeat (first|apply rA|apply rN|apply rD));exact (bQ HO176.out BK177.out (by decide) _ _ _ _)) hb);have n3_:=Am (blk_below (g:=gb152) (o:=.cells #[.string a0_0, .slice A0_1 l0_1.length c0_1, .bool a0_2, .string a0_3] 25 (0,0)) (by refine bB ?_;refine bF ?_ NB152_177.out;refine bB ?_;exact BK152.out) hb);have n4_:=Am (blk_below (g:=gb153) (o:=.cells #[.string x154000_1, .slice none 0 0, .bool x154002_1, .string x154003_1] 25 (0,0)) (by refine bB ?_;refine bF ?_ NB153_177.out;refine bB ?_;exact BK153.out) hb);have n5_:=Am (blk_below (g:=gb177) (o:=.cells #[.string a0_0, .slice Ao59 t174.length co59, .bool t156, .string t172] 25 (0,0)) (by refine bB ?_;apply bP;refine bB ?_;exact BK177.out) hb);have n6_:=Am (bT (by repeat (first|(with_reducible first|exact HB.out|apply bA|apply bN|apply bD|refine bS ?_ GE152.out|refine bS ?_ GE153.out|refine bS ?_ GE177.out)|exact HB.out)) hb);clear HO_8 HO_9 HO176 BK152 BK153 BK177 HB;have HO_8:=n0_;have HO_9:=n1_;have HO176:=n2_;have BK152:=n3_;have BK153:=n4_;have BK177:=n5_;have HB:=n6_;clear n0_ n1_ n2_ n3_ n4_ n5_ n6_;(try clear hb);have hnb68:=NB153_152.out;have hnc68:=NB152_153.out;obtain ⟨hcz69_0,hcz69_1,hcz69_2,hcz69_3,hfz69_0,hfz69_1,hfz69_2,hfz69_3⟩:=bX BK153.out))
       refine bodyPost_ret (results_ct rfl _ _ gb153 25 #[.string (⟨#[]⟩:ByteArray), .slice none 0 0, .bool false, .string (⟨#[]⟩:ByteArray)] (0,0) _ rfl (by refine bB ?_;apply bP;refine bB ?_;exact BK153.out) Tryd.underlying25 rfl (by kernel_rfl)) rfl ?_
       exact ⟨_,by first|rfl|(simp <;> rfl)|(simp [*] <;> rfl),by first|exact Kd.R_nil _ _ _ _ _|exact Kd.N_nil _ _ _ _ _|exact Kd.V_nil _ _ _ _ _|exact Kd.Q_nil _ _ _ _ _|exact Kd.S_nil _ _ _ _ _,by repeat (first|(with_reducible first|exact HB.out|apply bA|apply bN|apply bD|refine bS ?_ GE152.out|refine bS ?_ GE153.out|refine bS ?_ GE177.out)|exact HB.out)⟩
     ·replace c28:=Bool.eq_false_iff.mpr c28
      subst c28
      have H1:(some ((⟨#[]⟩:ByteArray),([]:List ByteArray),false,(⟨#[]⟩:ByteArray),false)) = some (r1,r2,r3,r4,r5):=by rw [if_neg (show ¬ (false = true) by decide)] at H;exact H
      clear H
      have H:=H1
      clear H1
      simp only [Option.some.injEq,Prod.mk.injEq] at H
      obtain ⟨rfl,rfl,rfl,rfl,rfl⟩:=H
      obtain ⟨Ao70,co70,eo70⟩:=Kd.R_slice HO_9.out
      subst eo70
      try go_wp2_with (first|((with_reducible refine gate_callee (f:=60) rfl ?_);refine goesL_ (some 51) rfl rfl Tryd.func60 (by kernel_rfl) rfl #[.string t155] rfl (aE1 rfl) ?_;(with_reducible refine (spec_EscNorm.calls k1 t155 t172 false _ A26.out).mono ?_);rintro e w71 ⟨rfl,hb⟩;refine ⟨_,rfl,?_⟩;have n0_:=bH HO_8 hb;have n1_:=bH HO_9 hb;have n2_:=Am (blk_below (bB BK152.out) hb);have n3_:=Am (blk_below (bB BK153.out) hb);have n4_:=Am (bT (by repeat (first|(with_reducible first|exact HB.out|apply bA|apply bN|apply bD|refine bS ?_ GE152.out|refine bS ?_ GE153.out)|exact HB.out)) hb);clear HO_8 HO_9 BK152 BK153 HB;have HO_8:=n0_;have HO_9:=n1_;have BK152:=n2_;have BK153:=n3_;have HB:=n4_;clear n0_ n1_ n2_ n3_ n4_;(try clear hb);obtain ⟨Ao72,co72,eo72⟩:=Kd.R_slice HO_8.out;subst eo72))
      have n0_:=Am (Kd.R_drew HO_8.out)
      have n1_:=Am (Kd.R_drew HO_9.out)
      have n2_:=Am (blk_drew BK152.out)
      have n3_:=Am (blk_drew BK153.out)
      have n4_:=Am (below_drew1 HB.out)
      clear HO_8
      clear HO_9
      clear BK152
      clear BK153
      clear HB
      have HO_8:=n0_
      have HO_9:=n1_
      have BK152:=n2_
      have BK153:=n3_
      have HB:=n4_
      clear n0_ n1_ n2_ n3_ n4_
      refine start_ (n:=9) (S:=fun w'=>w'.cell? ⟨gb152,0,none⟩ = some (.string a0_0) ∧ w'.cell? ⟨gb152,1,none⟩ = some (.slice A0_1 l0_1.length c0_1) ∧ w'.cell? ⟨gb152,2,none⟩ = some (.bool a0_2) ∧ w'.cell? ⟨gb152,3,none⟩ = some (.string a0_3)) (ds:=[]) #[false,false,false,false,false,false,false,false,false] (by kernel_rfl) rfl rfl ⟨bM BK152.out 0 rfl,bM BK152.out 1 rfl,bM BK152.out 2 rfl,bM BK152.out 3 rfl⟩ (fun hHeld=>?_);refine with_tabW spec_l1Way.tab12 spec_l1Way.bits12 (fun HT_ HW_=>?_)
      generalize w71.drew = w73 at HO_8 HO_9 BK152 BK153 HB hHeld ⊢
      refine pure_ (i:=0) (N:=some 54) (v:=?_) (a':=?_) #[true,false,false,false,false,false,false,false,false] rfl rfl (any_of HT_.out (by kernel_rfl)) (fun _ _ _ h=>h) (Or.inl ⟨by rfl,?_⟩) ?_ ?_
      rotate_left
      ·intro w'
       go_simp
       with_reducible rfl
      rotate_left
      ·simp only [Act.put,lT,lZ,lS,i64_w,i32_w]
       rfl
      refine pure_ (i:=2) (N:=some 56) (v:=?_) (a':=?_) #[true,false,true,false,false,false,false,false,false] rfl rfl (any_of HT_.out (by kernel_rfl)) (fun _ _ _ h=>h) (Or.inl ⟨by rfl,?_⟩) ?_ ?_
      rotate_left
      ·intro w'
       go_simp
       with_reducible rfl
      rotate_left
      ·simp only [Act.put,lT,lZ,lS,i64_w,i32_w]
       rfl
      refine pure_ (i:=4) (N:=some 58) (v:=?_) (a':=?_) #[true,false,true,false,true,false,false,false,false] rfl rfl (any_of HT_.out (by kernel_rfl)) (fun _ _ _ h=>h) (Or.inl ⟨by rfl,?_⟩) ?_ ?_
      rotate_left
      ·intro w'
       go_simp
       with_reducible rfl
      rotate_left
      ·simp only [Act.put,lT,lZ,lS,i64_w,i32_w]
       rfl
      refine pure_ (i:=5) (N:=some 59) (v:=?_) (a':=?_) #[true,false,true,false,true,true,false,false,false] rfl rfl (any_of HT_.out (by kernel_rfl)) (fun _ _ _ h=>h) (Or.inl ⟨by rfl,?_⟩) ?_ ?_
      rotate_left
      ·intro w'
       go_simp
       with_reducible rfl
      rotate_left
      ·simp only [Act.put,lT,lZ,lS,i64_w,i32_w]
       rfl
      refine take_ (i:=1) (N:=some 55) (v:=?_) (a':=?_) #[true,true,true,false,true,true,false,false,false] rfl rfl (take_ofW HT_.out HW_.out (by kernel_rfl)) (fun _ _ _ h=>h) (Or.inl ⟨by rfl,?_⟩) hHeld ?_ ?_
      rotate_left
      ·rintro w' ⟨s0,s1,s2,s3⟩
       go_simp
       with_reducible rfl
      rotate_left
      ·simp only [Act.put,lT,lZ,lS,i64_w,i32_w]
       rfl
      refine join_ (σ:=Value × Nat) 1 #[true,true,true,true,true,true,true,true,false] (fun s_=>[(57,s_.1),(15, .pointer (some ⟨s_.2,0,none⟩)),(60, .agg #[.string a0_0,s_.1, .bool t156, .string t172])]) (fun s_ w'=>(w'.cell? ⟨gb152,0,none⟩ = some (.string a0_0) ∧ w'.cell? ⟨gb152,1,none⟩ = some (.slice A0_1 l0_1.length c0_1) ∧ w'.cell? ⟨gb152,2,none⟩ = some (.bool a0_2) ∧ w'.cell? ⟨gb152,3,none⟩ = some (.string a0_3)) ∧ (Kd.R Kd.string 9 w' w.heap.size (fun k_=>some k_ ≠ (.slice Ao72 x8_1.length co72:Value).ownBlock ∧ some k_ ≠ (.slice Ao70 t163.length co70:Value).ownBlock) s_.1 t174) ∧ (Kd.R Kd.string 9 w' w.heap.size (fun k_=>some k_ ≠ (s_.1:Value).ownBlock ∧ some k_ ≠ (.slice Ao70 t163.length co70:Value).ownBlock) (.slice Ao72 x8_1.length co72) x8_1) ∧ (Kd.R Kd.string 9 w' w.heap.size (fun k_=>some k_ ≠ (s_.1:Value).ownBlock ∧ some k_ ≠ (.slice Ao72 x8_1.length co72:Value).ownBlock) (.slice Ao70 t163.length co70) t163) ∧ (w'.heap[gb152]? = some (.cells #[.string a0_0, .slice A0_1 l0_1.length c0_1, .bool a0_2, .string a0_3] 25 (0,0))) ∧ (w'.heap[gb153]? = some (.cells #[.string x154000_1, .slice none 0 0, .bool x154002_1, .string x154003_1] 25 (0,0))) ∧ (w'.heap[s_.2]? = some (.cells #[.string (⟨#[]⟩:ByteArray), .slice none 0 0, .bool false, .string (⟨#[]⟩:ByteArray)] 25 (0,0))) ∧ (w.heap.size ≤ s_.2) ∧ (w.heap.size ≤ s_.2) ∧ (gb152 ≠ s_.2) ∧ (s_.2 ≠ gb152) ∧ (gb153 ≠ s_.2) ∧ (s_.2 ≠ gb153) ∧ (Below w.heap.size w w')) ?_ ?_
      rotate_left
      ·intro hCont
       refine two_ (i:=3) (j:=7) (Ni:=some 57) (Nj:=some 15) #[true,true,true,true,true,true,false,false,false] #[true,true,true,false,true,true,false,true,false] rfl rfl rfl rfl (two_of HT_.out (by kernel_rfl)) (by decide) (by decide) (fun K hK=>?_) (fun K hK=>?_)
       ·skip
        refine goes_ Tryd.func61 (by kernel_rfl) rfl #[.slice Ao72 x8_1.length co72] (by rfl) rfl rfl (by (try simp only [List.map_toArray,List.map_cons,List.map_nil]);first|done|rfl|(simp only [List.length_drop,List.length_take];rfl)) ?_
        with_reducible refine (spec_PathClean.calls k1 _ _ x8_1 t174 _ ?side1 ?side2 A27.out).mono ?_
        (case side1=>repeat (first|exact (Kd.R_reads' HO_8.out).2.2|(with_reducible refine bC ?_)))
        (case side2=>exact (Kd.R_reads' HO_8.out).2.1)
        rintro e w74 ⟨v175,rfl,ho0,hb⟩
        refine ⟨_,rfl,?_⟩
        have n0_:=Am (Kd.R_elder' (bR HO_8.out) (Kd.R_base ho0) hb)
        have n1_:=Am (Kd.R_elder' (bR HO_9.out) (Kd.R_base ho0) hb)
        have n2_:=Am (Kd.R_lower (Kd.R_new' (Kd.R_new' ho0 (Kd.R_lt (bR HO_8.out))) (Kd.R_lt (bR HO_9.out))) (bU (by repeat (first|(with_reducible first|exact HB.out|apply bA|apply bN|apply bD|refine bS ?_ GE152.out|refine bS ?_ GE153.out)|exact HB.out))))
        have n3_:=Am (blk_below (bB BK152.out) hb)
        have n4_:=Am (blk_below (bB BK153.out) hb)
        have n5_:=Am (bT (by repeat (first|(with_reducible first|exact HB.out|apply bA|apply bN|apply bD|refine bS ?_ GE152.out|refine bS ?_ GE153.out)|exact HB.out)) hb)
        clear HO_8
        clear HO_9
        clear BK152
        clear BK153
        clear HB
        have HO_8:=n0_
        have HO_9:=n1_
        have HO176:=n2_
        have BK152:=n3_
        have BK153:=n4_
        have HB:=n5_
        clear n0_ n1_ n2_ n3_ n4_ n5_
        (try clear hb)
        (try clear hb2)
        (try clear hk)
        (try clear hi)
        (try clear ho0)
        obtain ⟨Ao75,co75,eo75⟩:=Kd.R_slice HO176.out
        (first|subst eo75|(injection eo75 with f1_ f2_ f3_;have f4_:=f1_.symm;have f5_:=f3_.symm;clear f1_ f2_ f3_;subst f4_;subst f5_))
        refine hK.out _ _ ⟨bM BK152.out 0 rfl,bM BK152.out 1 rfl,bM BK152.out 2 rfl,bM BK152.out 3 rfl⟩ (fun hHeld=>?_)
        clear hK K
        refine norm_ (a':=?_) ?_ ?_
        rotate_left
        ·show Act.put _ (some 57) _ = _
         simp only [Act.put,lT,lZ,lS,i64_w,i32_w]
         rfl
        refine pure_ (i:=6) (N:=some 60) (v:=?_) (a':=?_) #[true,true,true,true,true,true,true,false,false] rfl rfl (any_of HT_.out (by kernel_rfl)) (fun _ _ _ h=>h) (Or.inl ⟨by rfl,?_⟩) ?_ ?_
        rotate_left
        ·intro w'
         go_simp
         with_reducible rfl
        rotate_left
        ·simp only [Act.put,lT,lZ,lS,i64_w,i32_w]
         rfl
        refine one_ (i:=7) (N:=some 15) #[true,true,true,true,true,true,true,true,false] rfl rfl (one_of HT_.out (by kernel_rfl)) (by decide) (fun K hK=>?_)
        refine box_step ?hg (N:=15) ?hd (cs:=#[.string (⟨#[]⟩:ByteArray), .slice none 0 0, .bool false, .string (⟨#[]⟩:ByteArray)]) (t:=25) ?hr ?_;(case hd=>rfl);(case hg=>rfl);(case hr=>(go_simp <;> rfl))
        intro gb177 hg w76 hbox hb
        have n0_:=bH HO_8 hb
        have n1_:=bH HO_9 hb
        have n2_:=bH HO176 hb
        have n3_:=Am (blk_below (bB BK152.out) hb)
        have n4_:=Am (blk_below (bB BK153.out) hb)
        have n5_:=Am (bT (by repeat (first|(with_reducible first|exact HB.out|apply bA|apply bN|apply bD|refine bS ?_ GE152.out|refine bS ?_ GE153.out)|exact HB.out)) hb)
        have n6_:=Am (hbox)
        have n7_:=Am ((by rw [hg];exact (bU (by repeat (first|(with_reducible first|exact HB.out|apply bA|apply bN|apply bD|refine bS ?_ GE152.out|refine bS ?_ GE153.out)|exact HB.out))):w.heap.size ≤ gb177))
        have n8_:=Am ((by rw [hg];exact (bU (by repeat (first|(with_reducible first|exact HB.out|apply bA|apply bN|apply bD|refine bS ?_ GE152.out|refine bS ?_ GE153.out)|exact HB.out))):w.heap.size ≤ gb177))
        have n9_:=Am ((by rw [hg];exact Nat.ne_of_lt (blk_lt (bB BK152.out)):gb152 ≠ gb177))
        have n10_:=Am ((by rw [hg];exact Nat.ne_of_gt (blk_lt (bB BK152.out)):gb177 ≠ gb152))
        have n11_:=Am ((by rw [hg];exact Nat.ne_of_lt (blk_lt (bB BK153.out)):gb153 ≠ gb177))
        have n12_:=Am ((by rw [hg];exact Nat.ne_of_gt (blk_lt (bB BK153.out)):gb177 ≠ gb153))
        clear HO_8
        clear HO_9
        clear HO176
        clear BK152
        clear BK153
        clear HB
        have HO_8:=n0_
        have HO_9:=n1_
        have HO176:=n2_
        have BK152:=n3_
        have BK153:=n4_
        have HB:=n5_
        have BK177:=n6_
        have GW177:=n7_
        have GE177:=n8_
        have NB152_177:=n9_
        have NB177_152:=n10_
        have NB153_177:=n11_
        have NB177_153:=n12_
        clear n0_ n1_ n2_ n3_ n4_ n5_ n6_ n7_ n8_ n9_ n10_ n11_ n12_
        clear hb hbox hg
        refine hK.out _ _ ⟨bM BK152.out 0 rfl,bM BK152.out 1 rfl,bM BK152.out 2 rfl,bM BK152.out 3 rfl⟩ (fun hHeld=>?_)
        clear hK K
        refine norm_ (a':=?_) ?_ ?_
        rotate_left
        ·show Act.put _ (some 15) _ = _
         simp only [Act.put,lT,lZ,lS,i64_w,i32_w]
         rfl
        exact norm_ (by simp only [putAll,Act.put,lT,lZ,lS]) (hCont (.slice Ao75 t174.length co75,gb177) _ ⟨hHeld,(by (with_reducible repeat (first|apply rA|apply rN|apply rD));exact Kd.R_mono HO176.out (fun _ hk=>⟨hk.1.2,hk.2⟩)),(by (with_reducible repeat (first|apply rA|apply rN|apply rD));exact Kd.R_mono HO_8.out (fun _ hk=>⟨hk.2,hk.1⟩)),(by (with_reducible repeat (first|apply rA|apply rN|apply rD));exact Kd.R_mono HO_9.out (fun _ hk=>⟨hk.2,hk.1⟩)),(bB BK152.out),(bB BK153.out),(bB BK177.out),GW177.out,GE177.out,NB152_177.out,NB177_152.out,NB153_177.out,NB177_153.out,(by repeat (first|(with_reducible first|exact HB.out|apply bA|apply bN|apply bD|refine bS ?_ GE152.out|refine bS ?_ GE153.out|refine bS ?_ GE177.out)|exact HB.out))⟩)
       ·skip
        refine box_step ?hg (N:=15) ?hd (cs:=#[.string (⟨#[]⟩:ByteArray), .slice none 0 0, .bool false, .string (⟨#[]⟩:ByteArray)]) (t:=25) ?hr ?_;(case hd=>rfl);(case hg=>rfl);(case hr=>(go_simp <;> rfl))
        intro gb177 hg w74 hbox hb
        have n0_:=bH HO_8 hb
        have n1_:=bH HO_9 hb
        have n2_:=Am (blk_below (bB BK152.out) hb)
        have n3_:=Am (blk_below (bB BK153.out) hb)
        have n4_:=Am (bT (by repeat (first|(with_reducible first|exact HB.out|apply bA|apply bN|apply bD|refine bS ?_ GE152.out|refine bS ?_ GE153.out)|exact HB.out)) hb)
        have n5_:=Am (hbox)
        have n6_:=Am ((by rw [hg];exact (bU (by repeat (first|(with_reducible first|exact HB.out|apply bA|apply bN|apply bD|refine bS ?_ GE152.out|refine bS ?_ GE153.out)|exact HB.out))):w.heap.size ≤ gb177))
        have n7_:=Am ((by rw [hg];exact (bU (by repeat (first|(with_reducible first|exact HB.out|apply bA|apply bN|apply bD|refine bS ?_ GE152.out|refine bS ?_ GE153.out)|exact HB.out))):w.heap.size ≤ gb177))
        have n8_:=Am ((by rw [hg];exact Nat.ne_of_lt (blk_lt (bB BK152.out)):gb152 ≠ gb177))
        have n9_:=Am ((by rw [hg];exact Nat.ne_of_gt (blk_lt (bB BK152.out)):gb177 ≠ gb152))
        have n10_:=Am ((by rw [hg];exact Nat.ne_of_lt (blk_lt (bB BK153.out)):gb153 ≠ gb177))
        have n11_:=Am ((by rw [hg];exact Nat.ne_of_gt (blk_lt (bB BK153.out)):gb177 ≠ gb153))
        clear HO_8
        clear HO_9
        clear BK152
        clear BK153
        clear HB
        have HO_8:=n0_
        have HO_9:=n1_
        have BK152:=n2_
        have BK153:=n3_
        have HB:=n4_
        have BK177:=n5_
        have GW177:=n6_
        have GE177:=n7_
        have NB152_177:=n8_
        have NB177_152:=n9_
        have NB153_177:=n10_
        have NB177_153:=n11_
        clear n0_ n1_ n2_ n3_ n4_ n5_ n6_ n7_ n8_ n9_ n10_ n11_
        clear hb hbox hg
        refine hK.out _ _ ⟨bM BK152.out 0 rfl,bM BK152.out 1 rfl,bM BK152.out 2 rfl,bM BK152.out 3 rfl⟩ (fun hHeld=>?_)
        clear hK K
        refine norm_ (a':=?_) ?_ ?_
        rotate_left
        ·show Act.put _ (some 15) _ = _
         simp only [Act.put,lT,lZ,lS,i64_w,i32_w]
         rfl
        refine one_ (i:=3) (N:=some 57) #[true,true,true,true,true,true,false,true,false] rfl rfl (one_of HT_.out (by kernel_rfl)) (by decide) (fun K hK=>?_)
        refine goes_ Tryd.func61 (by kernel_rfl) rfl #[.slice Ao72 x8_1.length co72] (by rfl) rfl rfl (by (try simp only [List.map_toArray,List.map_cons,List.map_nil]);first|done|rfl|(simp only [List.length_drop,List.length_take];rfl)) ?_
        with_reducible refine (spec_PathClean.calls k1 _ _ x8_1 t174 _ ?side1 ?side2 A27.out).mono ?_
        (case side1=>repeat (first|exact (Kd.R_reads' HO_8.out).2.2|(with_reducible refine bC ?_)))
        (case side2=>exact (Kd.R_reads' HO_8.out).2.1)
        rintro e w75 ⟨v175,rfl,ho0,hb⟩
        refine ⟨_,rfl,?_⟩
        have n0_:=Am (Kd.R_elder' (bR HO_8.out) (Kd.R_base ho0) hb)
        have n1_:=Am (Kd.R_elder' (bR HO_9.out) (Kd.R_base ho0) hb)
        have n2_:=Am (Kd.R_lower (Kd.R_new' (Kd.R_new' ho0 (Kd.R_lt (bR HO_8.out))) (Kd.R_lt (bR HO_9.out))) (bU (by repeat (first|(with_reducible first|exact HB.out|apply bA|apply bN|apply bD|refine bS ?_ GE152.out|refine bS ?_ GE153.out|refine bS ?_ GE177.out)|exact HB.out))))
        have n3_:=Am (blk_below (bB BK152.out) hb)
        have n4_:=Am (blk_below (bB BK153.out) hb)
        have n5_:=Am (blk_below (bB BK177.out) hb)
        have n6_:=Am (bT (by repeat (first|(with_reducible first|exact HB.out|apply bA|apply bN|apply bD|refine bS ?_ GE152.out|refine bS ?_ GE153.out|refine bS ?_ GE177.out)|exact HB.out)) hb)
        clear HO_8
        clear HO_9
        clear BK152
        clear BK153
        clear BK177
        clear HB
        have HO_8:=n0_
        have HO_9:=n1_
        have HO176:=n2_
        have BK152:=n3_
        have BK153:=n4_
        have BK177:=n5_
        have HB:=n6_
        clear n0_ n1_ n2_ n3_ n4_ n5_ n6_
        (try clear hb)
        (try clear hb2)
        (try clear hk)
        (try clear hi)
        (try clear ho0)
        obtain ⟨Ao76,co76,eo76⟩:=Kd.R_slice HO176.out
        (first|subst eo76|(injection eo76 with f1_ f2_ f3_;have f4_:=f1_.symm;have f5_:=f3_.symm;clear f1_ f2_ f3_;subst f4_;subst f5_))
        refine hK.out _ _ ⟨bM BK152.out 0 rfl,bM BK152.out 1 rfl,bM BK152.out 2 rfl,bM BK152.out 3 rfl⟩ (fun hHeld=>?_)
        clear hK K
        refine norm_ (a':=?_) ?_ ?_
        rotate_left
        ·show Act.put _ (some 57) _ = _
         simp only [Act.put,lT,lZ,lS,i64_w,i32_w]
         rfl
        refine pure_ (i:=6) (N:=some 60) (v:=?_) (a':=?_) #[true,true,true,true,true,true,true,true,false] rfl rfl (any_of HT_.out (by kernel_rfl)) (fun _ _ _ h=>h) (Or.inl ⟨by rfl,?_⟩) ?_ ?_
        rotate_left
        ·intro w'
         go_simp
         with_reducible rfl
        rotate_left
        ·simp only [Act.put,lT,lZ,lS,i64_w,i32_w]
         rfl
        exact norm_ (by simp only [putAll,Act.put,lT,lZ,lS]) (hCont (.slice Ao76 t174.length co76,gb177) _ ⟨hHeld,(by (with_reducible repeat (first|apply rA|apply rN|apply rD));exact Kd.R_mono HO176.out (fun _ hk=>⟨hk.1.2,hk.2⟩)),(by (with_reducible repeat (first|apply rA|apply rN|apply rD));exact Kd.R_mono HO_8.out (fun _ hk=>⟨hk.2,hk.1⟩)),(by (with_reducible repeat (first|apply rA|apply rN|apply rD));exact Kd.R_mono HO_9.out (fun _ hk=>⟨hk.2,hk.1⟩)),(bB BK152.out),(bB BK153.out),(bB BK177.out),GW177.out,GE177.out,NB152_177.out,NB177_152.out,NB153_177.out,NB177_153.out,(by repeat (first|(with_reducible first|exact HB.out|apply bA|apply bN|apply bD|refine bS ?_ GE152.out|refine bS ?_ GE153.out|refine bS ?_ GE177.out)|exact HB.out))⟩)
      rintro ⟨v175,gb177⟩ w77 ⟨hS_,h0_,h1_,h2_,h3_,h4_,h5_,h6_,h7_,h8_,h9_,h10_,h11_,h12_⟩
      have n0_:Aside0 (Kd.R Kd.string 9 w77 w.heap.size (fun k_=>some k_ ≠ (.slice Ao72 x8_1.length co72:Value).ownBlock ∧ some k_ ≠ (.slice Ao70 t163.length co70:Value).ownBlock) v175 t174):=⟨h0_⟩
      have n1_:Aside0 (Kd.R Kd.string 9 w77 w.heap.size (fun k_=>some k_ ≠ (v175:Value).ownBlock ∧ some k_ ≠ (.slice Ao70 t163.length co70:Value).ownBlock) (.slice Ao72 x8_1.length co72) x8_1):=⟨h1_⟩
      have n2_:Aside0 (Kd.R Kd.string 9 w77 w.heap.size (fun k_=>some k_ ≠ (v175:Value).ownBlock ∧ some k_ ≠ (.slice Ao72 x8_1.length co72:Value).ownBlock) (.slice Ao70 t163.length co70) t163):=⟨h2_⟩
      have n3_:Aside0 (w77.heap[gb152]? = some (.cells #[.string a0_0, .slice A0_1 l0_1.length c0_1, .bool a0_2, .string a0_3] 25 (0,0))):=⟨h3_⟩
      have n4_:Aside0 (w77.heap[gb153]? = some (.cells #[.string x154000_1, .slice none 0 0, .bool x154002_1, .string x154003_1] 25 (0,0))):=⟨h4_⟩
      have n5_:Aside0 (w77.heap[gb177]? = some (.cells #[.string (⟨#[]⟩:ByteArray), .slice none 0 0, .bool false, .string (⟨#[]⟩:ByteArray)] 25 (0,0))):=⟨h5_⟩
      have n6_:Aside0 (w.heap.size ≤ gb177):=⟨h6_⟩
      have n7_:Aside0 (w.heap.size ≤ gb177):=⟨h7_⟩
      have n8_:Aside0 (gb152 ≠ gb177):=⟨h8_⟩
      have n9_:Aside0 (gb177 ≠ gb152):=⟨h9_⟩
      have n10_:Aside0 (gb153 ≠ gb177):=⟨h10_⟩
      have n11_:Aside0 (gb177 ≠ gb153):=⟨h11_⟩
      have n12_:Aside0 (Below w.heap.size w w77):=⟨h12_⟩
      clear HO_8
      clear HO_9
      clear BK152
      clear BK153
      clear HB
      clear h0_ h1_ h2_ h3_ h4_ h5_ h6_ h7_ h8_ h9_ h10_ h11_ h12_
      have HO176:=n0_
      have HO_8:=n1_
      have HO_9:=n2_
      have BK152:=n3_
      have BK153:=n4_
      have BK177:=n5_
      have GW177:=n6_
      have GE177:=n7_
      have NB152_177:=n8_
      have NB177_152:=n9_
      have NB153_177:=n10_
      have NB177_153:=n11_
      have HB:=n12_
      clear n0_ n1_ n2_ n3_ n4_ n5_ n6_ n7_ n8_ n9_ n10_ n11_ n12_
      have hHeld:w77.cell? ⟨gb152,0,none⟩ = some (.string a0_0) ∧ w77.cell? ⟨gb152,1,none⟩ = some (.slice A0_1 l0_1.length c0_1) ∧ w77.cell? ⟨gb152,2,none⟩ = some (.bool a0_2) ∧ w77.cell? ⟨gb152,3,none⟩ = some (.string a0_3):=hS_
      obtain ⟨Ao78,co78,eo78⟩:=Kd.R_slice HO176.out
      (first|subst eo78|(injection eo78 with f1_ f2_ f3_;have f4_:=f1_.symm;have f5_:=f3_.symm;clear f1_ f2_ f3_;subst f4_;subst f5_))
      refine norm_ (a':=?_) ?_ ?_
      rotate_left
      ·simp only [putAll,Act.put,lT,lZ,lS]
       rfl
      refine one_ (i:=8) (N:=none) #[true,true,true,true,true,true,true,true,true] rfl rfl (one_of HT_.out (by kernel_rfl)) (by decide) (fun K hK=>?_)
      have hs79:w77.cell? ⟨gb177,0,none⟩ = some (.string (⟨#[]⟩:ByteArray)):=bM BK177.out 0 rfl
      have hfs79:=bZ BK177.out 0
      have hns79_0:=NB152_177.out
      have hns79_1:=NB153_177.out
      have hms79_0:=NB177_152.out
      have hms79_1:=NB177_153.out
      have hs80:w77.cell? ⟨gb177,1,none⟩ = some (.slice none 0 0):=bM BK177.out 1 rfl
      have hfs80:=bZ BK177.out 1
      have hns80_0:=NB152_177.out
      have hns80_1:=NB153_177.out
      have hms80_0:=NB177_152.out
      have hms80_1:=NB177_153.out
      have hs81:w77.cell? ⟨gb177,2,none⟩ = some (.bool false):=bM BK177.out 2 rfl
      have hfs81:=bZ BK177.out 2
      have hns81_0:=NB152_177.out
      have hns81_1:=NB153_177.out
      have hms81_0:=NB177_152.out
      have hms81_1:=NB177_153.out
      have hs82:w77.cell? ⟨gb177,3,none⟩ = some (.string (⟨#[]⟩:ByteArray)):=bM BK177.out 3 rfl
      have hfs82:=bZ BK177.out 3
      have hns82_0:=NB152_177.out
      have hns82_1:=NB153_177.out
      have hms82_0:=NB177_152.out
      have hms82_1:=NB177_153.out
      refine skip_ (w1:=?_) (by rfl) rfl ?_ ?_
      rotate_left
      ·go_simp
       rfl
      refine hK.out _ _ ⟨((cell_far (p:=⟨gb177,_,none⟩) NB152_177.out _).trans (((cell_far (p:=⟨gb177,_,none⟩) NB152_177.out _).trans (((cell_far (p:=⟨gb177,_,none⟩) NB152_177.out _).trans (((cell_far (p:=⟨gb177,_,none⟩) NB152_177.out _).trans (hHeld.1)))))))),((cell_far (p:=⟨gb177,_,none⟩) NB152_177.out _).trans (((cell_far (p:=⟨gb177,_,none⟩) NB152_177.out _).trans (((cell_far (p:=⟨gb177,_,none⟩) NB152_177.out _).trans (((cell_far (p:=⟨gb177,_,none⟩) NB152_177.out _).trans (hHeld.2.1)))))))),((cell_far (p:=⟨gb177,_,none⟩) NB152_177.out _).trans (((cell_far (p:=⟨gb177,_,none⟩) NB152_177.out _).trans (((cell_far (p:=⟨gb177,_,none⟩) NB152_177.out _).trans (((cell_far (p:=⟨gb177,_,none⟩) NB152_177.out _).trans (hHeld.2.2.1)))))))),((cell_far (p:=⟨gb177,_,none⟩) NB152_177.out _).trans (((cell_far (p:=⟨gb177,_,none⟩) NB152_177.out _).trans (((cell_far (p:=⟨gb177,_,none⟩) NB152_177.out _).trans (((cell_far (p:=⟨gb177,_,none⟩) NB152_177.out _).trans (hHeld.2.2.2))))))))⟩ (fun hHeld=>?_)
      clear hK K
      refine done_ (done_of HT_.out (by kernel_rfl)) ?_
      have hnb83:=NB153_152.out
      have hnc83:=NB152_153.out
      have hnb84:=NB153_177.out
      have hnc84:=NB177_153.out
      obtain ⟨hcz85_0,hcz85_1,hcz85_2,hcz85_3,hfz85_0,hfz85_1,hfz85_2,hfz85_3⟩:=bX BK153.out







      try go_wp2
      refine bodyPost_ret (results_ct rfl _ _ gb153 25 #[.string (⟨#[]⟩:ByteArray), .slice none 0 0, .bool false, .string (⟨#[]⟩:ByteArray)] (0,0) _ rfl (by refine bB ?_;apply bP;refine bB ?_;refine bF ?_ NB153_177.out;refine bB ?_;exact BK153.out) Tryd.underlying25 rfl (by kernel_rfl)) rfl ?_
      exact ⟨_,by first|rfl|(simp <;> rfl)|(simp [*] <;> rfl),by first|exact Kd.R_nil _ _ _ _ _|exact Kd.N_nil _ _ _ _ _|exact Kd.V_nil _ _ _ _ _|exact Kd.Q_nil _ _ _ _ _|exact Kd.S_nil _ _ _ _ _,by repeat (first|(with_reducible first|exact HB.out|apply bA|apply bN|apply bD|refine bS ?_ GE152.out|refine bS ?_ GE153.out|refine bS ?_ GE177.out)|exact HB.out)⟩
 ·rw [if_neg c4] at H
  exact absurd H (by simp)

/-! ### spec_l1Small: function 58 -/
def spec_l1Small.lo (x:Int):Int:=if 65 ≤ x ∧ x ≤ 90 then x + 32 else x
def spec_l1Small.f (a0:ByteArray):Option ByteArray:=if a0.size ≤ 1000000 then some (strOfNums ((bytesOf a0).map spec_l1Small.lo)) else none
def spec_l1Small.upto (xs:List Int) (k:Nat):List Int:=(xs.take k).map spec_l1Small.lo ++ xs.drop k
def spec_l1Small.Row (w wr:World) (e:Nat) (xs:List Int):Prop :=
 Below w.heap.size w wr ∧ ∃ C:Array Value,wr.heap[w.heap.size]? = some (.cells C e (C.size,C.size + 1)) ∧ xs.length ≤ C.size ∧ ∀ j,j < xs.length → C[j]? = some (.int .u8 (xs.getD j 0))
theorem spec_l1Small.upto_length (xs:List Int) (k:Nat):(spec_l1Small.upto xs k).length = xs.length:=by
 unfold spec_l1Small.upto;simp;omega
theorem spec_l1Small.upto_at (xs:List Int) (k:Nat) (h:k < xs.length):(spec_l1Small.upto xs k).getD k 0 = xs.getD k 0:=by
 unfold spec_l1Small.upto
 rw [List.getD_eq_getElem?_getD,List.getElem?_append_right (by simp;omega)]
 simp only [List.length_map,List.length_take,List.getElem?_drop,List.getD_eq_getElem?_getD]
 rw [show k + (k - min k xs.length) = k by omega]
theorem spec_l1Small.upto_succ (xs:List Int) (k:Nat) (h:k < xs.length):spec_l1Small.upto xs (k + 1) = (spec_l1Small.upto xs k).set k (spec_l1Small.lo (xs.getD k 0)):=by
 unfold spec_l1Small.upto
 have hl:((xs.take k).map spec_l1Small.lo).length = k:=by simp;omega
 rw [List.set_append_right k _ (by omega),hl,Nat.sub_self,List.drop_eq_getElem_cons h,List.set_cons_zero,List.take_succ_eq_append_getElem h,List.map_append,List.getD_eq_getElem?_getD,List.getElem?_eq_getElem h]
 simp
theorem spec_l1Small.upto_same (xs:List Int) (k:Nat) (h:k < xs.length) (hn:¬ (65 ≤ xs.getD k 0 ∧ xs.getD k 0 ≤ 90)):spec_l1Small.upto xs (k + 1) = spec_l1Small.upto xs k:=by
 rw [spec_l1Small.upto_succ xs k h]
 have:spec_l1Small.lo (xs.getD k 0) = (spec_l1Small.upto xs k).getD k 0:=by
  rw [spec_l1Small.upto_at xs k h];unfold spec_l1Small.lo;rw [if_neg hn]
 rw [this,List.getD_eq_getElem?_getD,List.getElem?_eq_getElem (by rw [spec_l1Small.upto_length];exact h),Option.getD_some,List.set_getElem_self]
theorem spec_l1Small.upto_all (xs:List Int):spec_l1Small.upto xs xs.length = xs.map spec_l1Small.lo:=by
 unfold spec_l1Small.upto;simp
theorem spec_l1Small.Row.new (w:World) (e:Nat) (s:ByteArray):spec_l1Small.Row w (Lib.bytesWorld w e s) e (bytesOf s):=by
 refine ⟨⟨rfl,rfl,rfl,by rw [Lib.bytesWorld_size];omega,fun k hk=>Lib.bytesWorld_at_old w e s k hk⟩,_,Lib.bytesWorld_at_new w e s,?_,fun j hj=>?_⟩
 ·rw [bytesOf_length];simp [Lib.bytesCells]
 ·rw [bytesOf_length] at hj
  have h:=Lib.bytesWorld_cell w e s j hj
  simp only [World.cell?,Lib.bytesWorld_at_new] at h
  rw [show (bytesOf s).getD j 0 = ((s.data.toList.getD j 0).toNat:Int) by
   unfold bytesOf
   rw [List.getD_eq_getElem?_getD,List.getD_eq_getElem?_getD,List.getElem?_map]
   have:j < s.data.toList.length:=by rw [data_length];exact hj
   rw [List.getElem?_eq_getElem this];rfl]
  simpa using h
theorem spec_l1Small.Row.cell {w wr:World} {e:Nat} {xs:List Int} (h:spec_l1Small.Row w wr e xs) {j:Nat} (hj:j < xs.length):wr.cell? ⟨w.heap.size,j,none⟩ = some (.int .u8 (xs.getD j 0)):=by
 obtain ⟨_,C,hC,hl,hx⟩:=h
 simp only [World.cell?,hC]
 simpa using hx j hj
theorem spec_l1Small.Row.free {w wr:World} {e:Nat} {xs:List Int} (h:spec_l1Small.Row w wr e xs) {j:Nat} (hj:j < xs.length):wr.frozen? ⟨w.heap.size,j,none⟩ = false:=by
 obtain ⟨_,C,hC,hl,hx⟩:=h
 simp only [World.frozen?,hC]
 simp;omega
theorem spec_l1Small.Row.set {w wr:World} {e:Nat} {xs:List Int} (h:spec_l1Small.Row w wr e xs) (j:Nat) (x:Int):spec_l1Small.Row w (wr.setCell ⟨w.heap.size,j,none⟩ (.int .u8 x)) e (xs.set j x):=by
 obtain ⟨hb,C,hC,hl,hx⟩:=h
 refine ⟨below_set hb (Nat.le_refl _),C.setIfInBounds j (.int .u8 x),?_,by simpa using hl,fun i hi=>?_⟩
 ·simp [World.setCell,Array.getElem?_modify,hC]
 ·rw [List.length_set] at hi
  by_cases hij:i = j
  ·subst hij
   rw [Array.getElem?_setIfInBounds_self_of_lt (by omega),List.getD_eq_getElem?_getD,List.getElem?_set_self hi];rfl
  ·rw [Array.getElem?_setIfInBounds_ne (Ne.symm hij),hx i hi,List.getD_eq_getElem?_getD,List.getD_eq_getElem?_getD,List.getElem?_set_ne (Ne.symm hij)]
theorem spec_l1Small.Row.reads {w wr:World} {e:Nat} {xs:List Int} (h:spec_l1Small.Row w wr e xs) (hm:xs.length ≤ 1000000):ReadsInt wr .u8 (some ⟨w.heap.size,0,none⟩) xs.length xs:=by
 refine ⟨rfl,by omega,fun _=>⟨_,rfl,fun j hj=>?_⟩⟩
 rw [add_plain];exact h.cell hj
theorem spec_l1Small.byte_bd (s:ByteArray) (k:Nat):0 ≤ (bytesOf s).getD k 0 ∧ (bytesOf s).getD k 0 ≤ 255:=by
 have:=bt_range s k
 rw [← rd_bytesOf] at this
 simpa [rd] using this
theorem spec_l1Small.calls (a0:ByteArray) (r:ByteArray) (w:World) (h:spec_l1Small.f a0 = some r) :
  Calls Tryd.prog 58 #[.string a0] w fun e w'=>e = .returned (.string r) ∧ Below w.heap.size w w':=by
 have hs:a0.size ≤ 1000000:=by
  unfold spec_l1Small.f at h
  split at h
  ·assumption
  ·cases h
 have HR:=Am (show strOfNums ((bytesOf a0).map spec_l1Small.lo) = r by
  unfold spec_l1Small.f at h
  rw [if_pos hs] at h
  exact Option.some.inj h)
 clear h
 obtain ⟨W0,cap,hcv,HW⟩:∃ W0 cap,(convert 9 22 (.string a0)).run Tryd.prog w = .ok (.slice (some ⟨w.heap.size,0,none⟩) a0.size cap) W0 ∧ Aside0 (spec_l1Small.Row w W0 5 (spec_l1Small.upto (bytesOf a0) 0)):=by
  refine ⟨_,_,Lib.run_convert_string_bytes w 9 22 5 a0 Tryd.underlying9 Tryd.underlying22 Tryd.underlying5,⟨?_⟩⟩
  have:=spec_l1Small.Row.new w 5 a0
  simpa [spec_l1Small.upto] using this
 go_enter Tryd.func58,Tryd.ntmps58
 go_wp2
 go_loopw [4] (fun v wr=>∃ k:Nat,k ≤ a0.size ∧ v = .int .i64 k ∧ Aside0 (spec_l1Small.Row w wr 5 (spec_l1Small.upto (bytesOf a0) k))) (fun v _=>a0.size - (intOf v).toNat)
 case atStart=>exact ⟨0,Nat.zero_le _,rfl,HW⟩
 case round =>
  clear hcv HW
  obtain ⟨k,hk,rfl,HK⟩:=hrel
  by_cases hlt:k < a0.size
  ·have HL:=Am (bytesOf_length a0)
   have hbd:=spec_l1Small.byte_bd a0 k
   have hc:=HK.out.cell (j:=k) (by rw [spec_l1Small.upto_length,HL.out];exact hlt)
   rw [spec_l1Small.upto_at _ k (by rw [HL.out];exact hlt)] at hc
   have hf:=HK.out.free (j:=k) (by rw [spec_l1Small.upto_length,HL.out];exact hlt)
   generalize hx:(bytesOf a0).getD k 0 = x at hc hbd
   have HX:=Am hx
   clear hx
   by_cases h1:65 ≤ x
   ·by_cases h2:x ≤ 90
    ·have HN:=Am (HK.out.set k (x + 32))
     go_wp2
     go_roundw
     case rel=>exact ⟨k + 1,by omega,by go_num,⟨by
      rw [spec_l1Small.upto_succ _ k (by rw [HL.out];exact hlt),HX.out,show spec_l1Small.lo x = x + 32 by unfold spec_l1Small.lo;rw [if_pos ⟨h1,h2⟩]]
      exact HN.out⟩⟩
     case measure=>simp [intOf];omega
    ·go_wp2
     go_roundw
     case rel=>exact ⟨k + 1,by omega,by go_num,⟨by
      rw [spec_l1Small.upto_same _ k (by rw [HL.out];exact hlt) (by rw [HX.out];omega)]
      exact HK.out⟩⟩
     case measure=>simp [intOf];omega
   ·go_wp2
    go_roundw
    case rel=>exact ⟨k + 1,by omega,by go_num,⟨by
     rw [spec_l1Small.upto_same _ k (by rw [HL.out];exact hlt) (by rw [HX.out];omega)]
     exact HK.out⟩⟩
    case measure=>simp [intOf];omega
  ·obtain rfl:k = a0.size:=by omega
   have HL:=Am (bytesOf_length a0)
   have hcb:(convert 22 9 (.slice (some ⟨w.heap.size,0,none⟩) a0.size cap)).run Tryd.prog wr = .ok (.string r) wr:=by
    have e:spec_l1Small.upto (bytesOf a0) a0.size = (bytesOf a0).map spec_l1Small.lo:=by
     rw [← HL.out];exact spec_l1Small.upto_all _
    have h:=HK.out
    rw [e] at h
    have hl:((bytesOf a0).map spec_l1Small.lo).length = a0.size:=by rw [List.length_map,HL.out]
    have hr:=h.reads (by omega)
    rw [hl] at hr
    rw [← HR.out]
    exact string_of_reads Tryd.underlying22 Tryd.underlying5 Tryd.underlying9 hr
   have HB:=Am HK.out.1
   go_wp2
   go_ret
   exact ⟨rfl,HB.out⟩

/-! ### spec_l1Whole: function 33 -/
def spec_l1Whole.l0:Nat → ByteArray → ByteArray → ByteArray → Int → Option (ByteArray × List ByteArray × Bool × ByteArray × Bool)
 | 0,_,_,_,_=>none
 | k + 1,x0,x4,x5,x6=>if x6 < (x0.size:Int) then (if 0 ≤ x6 then (if (bt x0 x6) = 47 then (if x6 ≤ (x0.size:Int) then ((spec_l1Small.f (x0.extract 0 (x6:Int).toNat)).bind fun t180=>((spec_l1Way.f k t180 ([]:List ByteArray) false (⟨#[]⟩:ByteArray) (x0.extract (x6:Int).toNat x0.size)).bind fun bt181=>(some (bt181.1,bt181.2.1,bt181.2.2.1,bt181.2.2.2.1,bt181.2.2.2.2)))) else (none)) else (if (bt x0 x6) = 63 then (if x6 ≤ (x0.size:Int) then ((spec_l1Small.f (x0.extract 0 (x6:Int).toNat)).bind fun t188=>((spec_l1Way.f k t188 ([]:List ByteArray) false (⟨#[]⟩:ByteArray) (x0.extract (x6:Int).toNat x0.size)).bind fun bt189=>(some (bt189.1,bt189.2.1,bt189.2.2.1,bt189.2.2.2.1,bt189.2.2.2.2)))) else (none)) else (spec_l1Whole.l0 k x0 x4 x5 (wrap64 (x6 + 1))))) else (none)) else ((spec_l1Small.f x4).bind fun t196=>((spec_l1Way.f k t196 ([]:List ByteArray) false (⟨#[]⟩:ByteArray) x5).bind fun bt197=>(some (bt197.1,bt197.2.1,bt197.2.2.1,bt197.2.2.2.1,bt197.2.2.2.2))))
def spec_l1Whole.f (k:Nat) (a0:ByteArray):Option (ByteArray × List ByteArray × Bool × ByteArray × Bool):=spec_l1Whole.l0 k a0 a0 (⟨#[]⟩:ByteArray) 0
theorem spec_l1Whole.mono_l:∀ k,(∀ y0 y1 y2 y3,LeO (spec_l1Whole.l0 k y0 y1 y2 y3) (spec_l1Whole.l0 (k + 1) y0 y1 y2 y3))
 | 0=>fun _ _ _ _ r h=>by simp [spec_l1Whole.l0] at h
 | k + 1=>by
  have ih0:=spec_l1Whole.mono_l k
  ·intro y0 y1 y2 y3
   unfold spec_l1Whole.l0
   repeat' first
   | (with_reducible apply ih0)
   | (with_reducible apply spec_l1Way.mono)
   | (with_reducible exact LeO.refl _)
   | (with_reducible exact LeO.none _)
   | (with_reducible refine LeO.ite ?_ ?_)
   | (with_reducible refine LeO.bind ?_ (fun _=>?_))





theorem spec_l1Whole.mono:∀ a0 k,LeO (spec_l1Whole.f k a0) (spec_l1Whole.f (k + 1) a0):=by
 intro a0 k
 have ih0:=spec_l1Whole.mono_l k
 unfold spec_l1Whole.f
 repeat' first
   | (with_reducible apply ih0)
   | (with_reducible apply spec_l1Way.mono)
   | (with_reducible exact LeO.refl _)
   | (with_reducible exact LeO.none _)
   | (with_reducible refine LeO.ite ?_ ?_)
   | (with_reducible refine LeO.bind ?_ (fun _=>?_))





theorem spec_l1Whole.calls (k:Nat) (a0:ByteArray) (r1:ByteArray) (r2:List ByteArray) (r3:Bool) (r4:ByteArray) (r5:Bool) (w:World) (h:spec_l1Whole.f k a0 = some (r1,r2,r3,r4,r5)) :
  Calls Tryd.prog 33 #[.string a0] w fun e w'=>∃ v1_:Value,e = .returned (.tuple #[.agg #[.string r1,v1_, .bool r3, .string r4], .bool r5]) ∧ Kd.R Kd.string 9 w' w.heap.size (fun _=>True) v1_ r2 ∧ Below w.heap.size w w':=by
 have hu25:=Tryd.underlying25
 have HB:=Am (Below.refl w.heap.size w)
 have H:(spec_l1Whole.l0 k a0 a0 (⟨#[]⟩:ByteArray) 0) = some (r1,r2,r3,r4,r5):=h
 clear h
 have H':=Am H
 clear H
 go_enter Tryd.func33,Tryd.ntmps33
 go_wp2_with (first|((with_reducible refine gate_dst (N:=2) rfl ?_);refine box_event ?hg (N:=2) ?hd (cs:=#[.string (⟨#[]⟩:ByteArray), .slice none 0 0, .bool false, .string (⟨#[]⟩:ByteArray)]) (t:=25) ?hr ?_;(case hd=>rfl);(case hg=>rfl);(case hr=>(go_simp <;> rfl));intro gb179 hg w2 hbox hb;have n0_:=Am (bT (by repeat (first|(with_reducible first|exact HB.out|apply bA|apply bN|apply bD)|exact HB.out)) hb);have n1_:=Am (hbox);have n2_:=Am ((by rw [hg];exact (bU (by repeat (first|(with_reducible first|exact HB.out|apply bA|apply bN|apply bD)|exact HB.out))):w.heap.size ≤ gb179));have n3_:=n2_;clear HB;have HB:=n0_;have BK179:=n1_;have GW179:=n2_;have GE179:=n3_;clear n0_ n1_ n2_ n3_ hb hbox hg))
 go_loopg [4,5,6] k (fun kq v4 v5 v6 w'=>∃ (x4_1:ByteArray) (x5_1:ByteArray) (x6_1:Int),v4 = .string x4_1 ∧ v5 = .string x5_1 ∧ v6 = .int .i64 x6_1 ∧ Aside0 (spec_l1Whole.l0 kq a0 x4_1 x5_1 x6_1 = some (r1,r2,r3,r4,r5)) ∧ Aside0 (kq ≤ k) ∧ Aside0 (w'.heap[gb179]? = some (.cells #[.string (⟨#[]⟩:ByteArray),(.slice none 0 0), .bool false, .string (⟨#[]⟩:ByteArray)] 25 (0,0))) ∧ Aside0 (Below w.heap.size w w'))
 case atStart=>exact ⟨(a0),((⟨#[]⟩:ByteArray)),(0),(by first|rfl|(simp;done)|(simp only [i64_w,i32_w] <;> rfl)|(simp [*];done)|(simp [emp_bne,emp_beq];done)),(by first|rfl|(simp;done)|(simp only [i64_w,i32_w] <;> rfl)|(simp [*];done)|(simp [emp_bne,emp_beq];done)),(by first|rfl|(simp;done)|(simp only [i64_w,i32_w] <;> rfl)|(simp [*];done)|(simp [emp_bne,emp_beq];done)),H',⟨Nat.le_refl _⟩,⟨by refine bB ?_;exact BK179.out⟩,⟨by repeat (first|(with_reducible first|exact HB.out|apply bA|apply bN|apply bD|refine bS ?_ GE179.out)|exact HB.out)⟩⟩
 case round =>
  clear H'
  try clear p2
  obtain ⟨x4_1,x5_1,x6_1,rfl,rfl,rfl,HA,HK1,BK179,HB⟩:=hrel
  cases gk with
  | zero=>exact absurd HA.out (by simp [spec_l1Whole.l0])
  | succ k1 =>
   have H:=HA.out
   clear HA
   simp only [spec_l1Whole.l0] at H
   by_cases c3:x6_1 < (a0.size:Int)
   ·rw [if_pos c3] at H
    have c3b0:decide (x6_1 < (a0.size:Int)) = true:=decide_eq_true c3
    clear c3
    by_cases c4:0 ≤ x6_1
    ·rw [if_pos c4] at H
     have c4b0:decide (0 ≤ x6_1) = true:=decide_eq_true c4
     clear c4
     by_cases c6:(bt a0 x6_1) = 47
     ·rw [if_pos c6] at H
      have c6b0:((bt a0 x6_1) == 47) = true:=beq_iff_eq.mpr c6
      have c6b1:((bt a0 x6_1) != 47) = false:=bne_eq_false_iff_eq.mpr c6
      clear c6
      have c7b0:=eq_true (oD (by assumption):0 ≤ x6_1)
      by_cases c8:x6_1 ≤ (a0.size:Int)
      ·rw [if_pos c8] at H
       have c8b0:=eq_true c8
       have c8b1:=decide_eq_true c8
       clear c8
       have c9b0:=eq_true (oD (by assumption):0 ≤ x6_1)
       have c10b0:=eq_true (oD (by assumption):x6_1 ≤ (a0.size:Int))
       replace H:=bI H
       obtain ⟨t180,A110,H⟩:=H
       replace H:((spec_l1Way.f k1 t180 ([]:List ByteArray) false (⟨#[]⟩:ByteArray) (a0.extract (x6_1:Int).toNat a0.size)).bind fun bt181=>(some (bt181.1,bt181.2.1,bt181.2.2.1,bt181.2.2.2.1,bt181.2.2.2.2))) = some (r1,r2,r3,r4,r5):=H
       have A11:=Am A110
       clear A110
       replace H:=bI H
       obtain ⟨⟨t181,t182,t185,t186,t187⟩,A120,H⟩:=H
       replace H:(some (t181,t182,t185,t186,t187)) = some (r1,r2,r3,r4,r5):=H
       have A12:=Am A120
       clear A120
       simp only [Option.some.injEq,Prod.mk.injEq] at H
       obtain ⟨rfl,rfl,rfl,rfl,rfl⟩:=H
       have p5:0 ≤ (x6_1:Int):=oD (by assumption)
       have q5:x6_1 < (a0.size:Int):=oD (by assumption)
       have hx5:=bt_at a0 x6_1
       replace p5:=eq_true p5
       replace q5:=eq_true q5
       go_wp2_with (first|((with_reducible refine gate_callee (f:=58) rfl ?_);refine goesL_ (some 31) rfl rfl Tryd.func58 (by kernel_rfl) rfl #[.string (a0.extract 0 (x6_1:Int).toNat)] rfl (aE1 rfl) ?_;(with_reducible refine (spec_l1Small.calls (a0.extract 0 (x6_1:Int).toNat) t180 _ A11.out).mono ?_);rintro e w13 ⟨rfl,hb⟩;refine ⟨_,rfl,?_⟩;have n0_:=Am (blk_below (bB BK179.out) hb);have n1_:=Am (bT (by repeat (first|(with_reducible first|exact HB.out|apply bA|apply bN|apply bD|refine bS ?_ GE179.out)|exact HB.out)) hb);clear BK179 HB;have BK179:=n0_;have HB:=n1_;clear n0_ n1_;(try clear hb))|((with_reducible refine gate_callee (f:=34) rfl ?_);refine goesL_ (some 34) rfl rfl Tryd.func34 (by kernel_rfl) rfl #[.agg #[.string t180, .slice none 0 0, .bool false, .string (⟨#[]⟩:ByteArray)], .string (a0.extract (x6_1:Int).toNat a0.size)] rfl (aE2 rfl rfl) ?_;(refine (spec_l1Way.calls k1 t180 _ _ ([]:List ByteArray) false (⟨#[]⟩:ByteArray) (a0.extract (x6_1:Int).toNat a0.size) t181 t182 t185 t186 t187 _ ?side1 ?side2 A12.out).mono ?_);(case side1=>exact Kd.C_nil _ _);(case side2=>exact Nat.le_refl _);rintro e w14 ⟨v183,rfl,ho0,hb⟩;refine ⟨_,rfl,?_⟩;have n0_:=Am (Kd.R_lower ho0 (bU (by repeat (first|(with_reducible first|exact HB.out|apply bA|apply bN|apply bD|refine bS ?_ GE179.out)|exact HB.out))));have n1_:=Am (blk_below (bB BK179.out) hb);have n2_:=Am (bT (by repeat (first|(with_reducible first|exact HB.out|apply bA|apply bN|apply bD|refine bS ?_ GE179.out)|exact HB.out)) hb);clear BK179 HB;have HO184:=n0_;have BK179:=n1_;have HB:=n2_;clear n0_ n1_ n2_;(try clear hb);(try clear ho0);obtain ⟨hcz15_0,hcz15_1,hcz15_2,hcz15_3,hfz15_0,hfz15_1,hfz15_2,hfz15_3⟩:=bX BK179.out;obtain ⟨Ao16,co16,eo16⟩:=Kd.R_slice HO184.out;subst eo16))
       refine bodyPost_ret (results_ct rfl _ _ gb179 25 #[.string t181, .slice Ao16 t182.length co16, .bool t185, .string t186] (0,0) _ rfl (by refine bB ?_;apply bP;refine bB ?_;exact BK179.out) Tryd.underlying25 rfl (by kernel_rfl)) rfl ?_
       exact ⟨_,by first|rfl|(simp <;> rfl)|(simp [*] <;> rfl),by (with_reducible repeat (first|apply rA|apply rN|apply rD));exact Kd.R_mono (Kd.R_far (p:=⟨gb179,3,none⟩) (Kd.R_far (p:=⟨gb179,2,none⟩) (Kd.R_far (p:=⟨gb179,1,none⟩) (Kd.R_far (p:=⟨gb179,0,none⟩) (Kd.R_types HO184.out BK179.out (by decide)) (fun _ hk=>hk.2) (.string t181)) (fun _ hk=>hk.2) (.slice Ao16 t182.length co16)) (fun _ hk=>hk.2) (.bool t185)) (fun _ hk=>hk.2) (.string t186)) (fun _ hk=>trivial),by repeat (first|(with_reducible first|exact HB.out|apply bA|apply bN|apply bD|refine bS ?_ GE179.out)|exact HB.out)⟩
      ·rw [if_neg c8] at H
       exact absurd H (by simp)
     ·rw [if_neg c6] at H
      have c6b0:((bt a0 x6_1) == 47) = false:=beq_eq_false_iff_ne.mpr c6
      have c6b1:((bt a0 x6_1) != 47) = true:=bne_iff_ne.mpr c6
      by_cases c18:(bt a0 x6_1) = 63
      ·rw [if_pos c18] at H
       have c18b0:((bt a0 x6_1) == 63) = true:=beq_iff_eq.mpr c18
       have c18b1:((bt a0 x6_1) != 63) = false:=bne_eq_false_iff_eq.mpr c18
       clear c18
       have c19b0:=eq_true (oD (by assumption):0 ≤ x6_1)
       by_cases c20:x6_1 ≤ (a0.size:Int)
       ·rw [if_pos c20] at H
        have c20b0:=eq_true c20
        have c20b1:=decide_eq_true c20
        clear c20
        have c21b0:=eq_true (oD (by assumption):0 ≤ x6_1)
        have c22b0:=eq_true (oD (by assumption):x6_1 ≤ (a0.size:Int))
        replace H:=bI H
        obtain ⟨t188,A230,H⟩:=H
        replace H:((spec_l1Way.f k1 t188 ([]:List ByteArray) false (⟨#[]⟩:ByteArray) (a0.extract (x6_1:Int).toNat a0.size)).bind fun bt189=>(some (bt189.1,bt189.2.1,bt189.2.2.1,bt189.2.2.2.1,bt189.2.2.2.2))) = some (r1,r2,r3,r4,r5):=H
        have A23:=Am A230
        clear A230
        replace H:=bI H
        obtain ⟨⟨t189,t190,t193,t194,t195⟩,A240,H⟩:=H
        replace H:(some (t189,t190,t193,t194,t195)) = some (r1,r2,r3,r4,r5):=H
        have A24:=Am A240
        clear A240
        simp only [Option.some.injEq,Prod.mk.injEq] at H
        obtain ⟨rfl,rfl,rfl,rfl,rfl⟩:=H
        have p5:0 ≤ (x6_1:Int):=oD (by assumption)
        have q5:x6_1 < (a0.size:Int):=oD (by assumption)
        have hx5:=bt_at a0 x6_1
        replace p5:=eq_true p5
        replace q5:=eq_true q5
        have p17:0 ≤ (x6_1:Int):=oD (by assumption)
        have q17:x6_1 < (a0.size:Int):=oD (by assumption)
        have hx17:=bt_at a0 x6_1
        replace p17:=eq_true p17
        replace q17:=eq_true q17
        go_wp2_with (first|((with_reducible refine gate_callee (f:=58) rfl ?_);refine goesL_ (some 31) rfl rfl Tryd.func58 (by kernel_rfl) rfl #[.string (a0.extract 0 (x6_1:Int).toNat)] rfl (aE1 rfl) ?_;(with_reducible refine (spec_l1Small.calls (a0.extract 0 (x6_1:Int).toNat) t188 _ A23.out).mono ?_);rintro e w25 ⟨rfl,hb⟩;refine ⟨_,rfl,?_⟩;have n0_:=Am (blk_below (bB BK179.out) hb);have n1_:=Am (bT (by repeat (first|(with_reducible first|exact HB.out|apply bA|apply bN|apply bD|refine bS ?_ GE179.out)|exact HB.out)) hb);clear BK179 HB;have BK179:=n0_;have HB:=n1_;clear n0_ n1_;(try clear hb))|((with_reducible refine gate_callee (f:=34) rfl ?_);refine goesL_ (some 34) rfl rfl Tryd.func34 (by kernel_rfl) rfl #[.agg #[.string t188, .slice none 0 0, .bool false, .string (⟨#[]⟩:ByteArray)], .string (a0.extract (x6_1:Int).toNat a0.size)] rfl (aE2 rfl rfl) ?_;(refine (spec_l1Way.calls k1 t188 _ _ ([]:List ByteArray) false (⟨#[]⟩:ByteArray) (a0.extract (x6_1:Int).toNat a0.size) t189 t190 t193 t194 t195 _ ?side1 ?side2 A24.out).mono ?_);(case side1=>exact Kd.C_nil _ _);(case side2=>exact Nat.le_refl _);rintro e w26 ⟨v191,rfl,ho0,hb⟩;refine ⟨_,rfl,?_⟩;have n0_:=Am (Kd.R_lower ho0 (bU (by repeat (first|(with_reducible first|exact HB.out|apply bA|apply bN|apply bD|refine bS ?_ GE179.out)|exact HB.out))));have n1_:=Am (blk_below (bB BK179.out) hb);have n2_:=Am (bT (by repeat (first|(with_reducible first|exact HB.out|apply bA|apply bN|apply bD|refine bS ?_ GE179.out)|exact HB.out)) hb);clear BK179 HB;have HO192:=n0_;have BK179:=n1_;have HB:=n2_;clear n0_ n1_ n2_;(try clear hb);(try clear ho0);obtain ⟨hcz27_0,hcz27_1,hcz27_2,hcz27_3,hfz27_0,hfz27_1,hfz27_2,hfz27_3⟩:=bX BK179.out;obtain ⟨Ao28,co28,eo28⟩:=Kd.R_slice HO192.out;subst eo28))
        refine bodyPost_ret (results_ct rfl _ _ gb179 25 #[.string t189, .slice Ao28 t190.length co28, .bool t193, .string t194] (0,0) _ rfl (by refine bB ?_;apply bP;refine bB ?_;exact BK179.out) Tryd.underlying25 rfl (by kernel_rfl)) rfl ?_
        exact ⟨_,by first|rfl|(simp <;> rfl)|(simp [*] <;> rfl),by (with_reducible repeat (first|apply rA|apply rN|apply rD));exact Kd.R_mono (Kd.R_far (p:=⟨gb179,3,none⟩) (Kd.R_far (p:=⟨gb179,2,none⟩) (Kd.R_far (p:=⟨gb179,1,none⟩) (Kd.R_far (p:=⟨gb179,0,none⟩) (Kd.R_types HO192.out BK179.out (by decide)) (fun _ hk=>hk.2) (.string t189)) (fun _ hk=>hk.2) (.slice Ao28 t190.length co28)) (fun _ hk=>hk.2) (.bool t193)) (fun _ hk=>hk.2) (.string t194)) (fun _ hk=>trivial),by repeat (first|(with_reducible first|exact HB.out|apply bA|apply bN|apply bD|refine bS ?_ GE179.out)|exact HB.out)⟩
       ·rw [if_neg c20] at H
        exact absurd H (by simp)
      ·rw [if_neg c18] at H
       have c18b0:((bt a0 x6_1) == 63) = false:=beq_eq_false_iff_ne.mpr c18
       have c18b1:((bt a0 x6_1) != 63) = true:=bne_iff_ne.mpr c18
       have H':=Am H
       clear H
       have p5:0 ≤ (x6_1:Int):=oD (by assumption)
       have q5:x6_1 < (a0.size:Int):=oD (by assumption)
       have hx5:=bt_at a0 x6_1
       replace p5:=eq_true p5
       replace q5:=eq_true q5
       have p17:0 ≤ (x6_1:Int):=oD (by assumption)
       have q17:x6_1 < (a0.size:Int):=oD (by assumption)
       have hx17:=bt_at a0 x6_1
       replace p17:=eq_true p17
       replace q17:=eq_true q17
       go_wp2
       go_roundg k1
       case measure=>have:=HK1.out;omega
       case rel=>exact ⟨(x4_1),(x5_1),(wrap64 (x6_1 + 1)),(by first|rfl|(simp;done)|(simp only [i64_w,i32_w] <;> rfl)|(simp [*];done)|(simp [emp_bne,emp_beq];done)),(by first|rfl|(simp;done)|(simp only [i64_w,i32_w] <;> rfl)|(simp [*];done)|(simp [emp_bne,emp_beq];done)),(by first|rfl|(simp;done)|(simp only [i64_w,i32_w] <;> rfl)|(simp [*];done)|(simp [emp_bne,emp_beq];done)),H',⟨by have:=HK1.out;omega⟩,⟨by refine bB ?_;exact BK179.out⟩,⟨by repeat (first|(with_reducible first|exact HB.out|apply bA|apply bN|apply bD|refine bS ?_ GE179.out)|exact HB.out)⟩⟩
    ·rw [if_neg c4] at H
     exact absurd H (by simp)
   ·rw [if_neg c3] at H
    have c3b0:decide (x6_1 < (a0.size:Int)) = false:=decide_eq_false c3
    clear c3
    replace H:=bI H
    obtain ⟨t196,A290,H⟩:=H
    replace H:((spec_l1Way.f k1 t196 ([]:List ByteArray) false (⟨#[]⟩:ByteArray) x5_1).bind fun bt197=>(some (bt197.1,bt197.2.1,bt197.2.2.1,bt197.2.2.2.1,bt197.2.2.2.2))) = some (r1,r2,r3,r4,r5):=H
    have A29:=Am A290
    clear A290
    replace H:=bI H
    obtain ⟨⟨t197,t198,t201,t202,t203⟩,A300,H⟩:=H
    replace H:(some (t197,t198,t201,t202,t203)) = some (r1,r2,r3,r4,r5):=H
    have A30:=Am A300
    clear A300
    simp only [Option.some.injEq,Prod.mk.injEq] at H
    obtain ⟨rfl,rfl,rfl,rfl,rfl⟩:=H
    go_wp2_with (first|((with_reducible refine gate_callee (f:=58) rfl ?_);refine goesL_ (some 31) rfl rfl Tryd.func58 (by kernel_rfl) rfl #[.string x4_1] rfl (aE1 rfl) ?_;(with_reducible refine (spec_l1Small.calls x4_1 t196 _ A29.out).mono ?_);rintro e w31 ⟨rfl,hb⟩;refine ⟨_,rfl,?_⟩;have n0_:=Am (blk_below (bB BK179.out) hb);have n1_:=Am (bT (by repeat (first|(with_reducible first|exact HB.out|apply bA|apply bN|apply bD|refine bS ?_ GE179.out)|exact HB.out)) hb);clear BK179 HB;have BK179:=n0_;have HB:=n1_;clear n0_ n1_;(try clear hb))|((with_reducible refine gate_callee (f:=34) rfl ?_);refine goesL_ (some 34) rfl rfl Tryd.func34 (by kernel_rfl) rfl #[.agg #[.string t196, .slice none 0 0, .bool false, .string (⟨#[]⟩:ByteArray)], .string x5_1] rfl (aE2 rfl rfl) ?_;(refine (spec_l1Way.calls k1 t196 _ _ ([]:List ByteArray) false (⟨#[]⟩:ByteArray) x5_1 t197 t198 t201 t202 t203 _ ?side1 ?side2 A30.out).mono ?_);(case side1=>exact Kd.C_nil _ _);(case side2=>exact Nat.le_refl _);rintro e w32 ⟨v199,rfl,ho0,hb⟩;refine ⟨_,rfl,?_⟩;have n0_:=Am (Kd.R_lower ho0 (bU (by repeat (first|(with_reducible first|exact HB.out|apply bA|apply bN|apply bD|refine bS ?_ GE179.out)|exact HB.out))));have n1_:=Am (blk_below (bB BK179.out) hb);have n2_:=Am (bT (by repeat (first|(with_reducible first|exact HB.out|apply bA|apply bN|apply bD|refine bS ?_ GE179.out)|exact HB.out)) hb);clear BK179 HB;have HO200:=n0_;have BK179:=n1_;have HB:=n2_;clear n0_ n1_ n2_;(try clear hb);(try clear ho0);obtain ⟨hcz33_0,hcz33_1,hcz33_2,hcz33_3,hfz33_0,hfz33_1,hfz33_2,hfz33_3⟩:=bX BK179.out;obtain ⟨Ao34,co34,eo34⟩:=Kd.R_slice HO200.out;subst eo34))
    refine bodyPost_ret (results_ct rfl _ _ gb179 25 #[.string t197, .slice Ao34 t198.length co34, .bool t201, .string t202] (0,0) _ rfl (by refine bB ?_;apply bP;refine bB ?_;exact BK179.out) Tryd.underlying25 rfl (by kernel_rfl)) rfl ?_
    exact ⟨_,by first|rfl|(simp <;> rfl)|(simp [*] <;> rfl),by (with_reducible repeat (first|apply rA|apply rN|apply rD));exact Kd.R_mono (Kd.R_far (p:=⟨gb179,3,none⟩) (Kd.R_far (p:=⟨gb179,2,none⟩) (Kd.R_far (p:=⟨gb179,1,none⟩) (Kd.R_far (p:=⟨gb179,0,none⟩) (Kd.R_types HO200.out BK179.out (by decide)) (fun _ hk=>hk.2) (.string t197)) (fun _ hk=>hk.2) (.slice Ao34 t198.length co34)) (fun _ hk=>hk.2) (.bool t201)) (fun _ hk=>hk.2) (.string t202)) (fun _ hk=>trivial),by repeat (first|(with_reducible first|exact HB.out|apply bA|apply bN|apply bD|refine bS ?_ GE179.out)|exact HB.out)⟩

/-! ### spec_AddrRead: function 25 -/
def spec_AddrRead.f (k:Nat) (a0:ByteArray):Option (ByteArray × List ByteArray × Bool × ByteArray × Bool):=(spec_l1Cut.f k a0 35).bind fun bt205=>(if (a0.size:Int) > 60 then (some ((⟨#[]⟩:ByteArray),([]:List ByteArray),false,(⟨#[]⟩:ByteArray),false)) else (if (bt205.1.size:Int) < 2 then (some ((⟨#[]⟩:ByteArray),([]:List ByteArray),false,(⟨#[]⟩:ByteArray),false)) else (if 0 ≤ 2 then (if 2 ≤ (bt205.1.size:Int) then (if (bt205.1.extract 0 2).toList = ([47,47]:List UInt8) then ((spec_l1Whole.f k (bt205.1.extract 2 bt205.1.size)).bind fun bt208=>(some (bt208.1,bt208.2.1,bt208.2.2.1,bt208.2.2.2.1,bt208.2.2.2.2))) else (some ((⟨#[]⟩:ByteArray),([]:List ByteArray),false,(⟨#[]⟩:ByteArray),false))) else (none)) else (none))))
theorem spec_AddrRead.mono:∀ a0 k,LeO (spec_AddrRead.f k a0) (spec_AddrRead.f (k + 1) a0):=by
 intro a0 k
 unfold spec_AddrRead.f
 repeat' first
   | (with_reducible apply spec_l1Cut.mono)
   | (with_reducible apply spec_l1Whole.mono)
   | (with_reducible exact LeO.refl _)
   | (with_reducible exact LeO.none _)
   | (with_reducible refine LeO.ite ?_ ?_)
   | (with_reducible refine LeO.bind ?_ (fun _=>?_))





theorem spec_AddrRead.calls (k:Nat) (a0:ByteArray) (r1:ByteArray) (r2:List ByteArray) (r3:Bool) (r4:ByteArray) (r5:Bool) (w:World) (h:spec_AddrRead.f k a0 = some (r1,r2,r3,r4,r5)) :
  Calls Tryd.prog 25 #[.string a0] w fun e w'=>∃ v1_:Value,e = .returned (.tuple #[.agg #[.string r1,v1_, .bool r3, .string r4], .bool r5]) ∧ Kd.R Kd.string 9 w' w.heap.size (fun _=>True) v1_ r2 ∧ Below w.heap.size w w':=by
 have hu25:=Tryd.underlying25
 have HB:=Am (Below.refl w.heap.size w)
 have H:((spec_l1Cut.f k a0 35).bind fun bt205=>(if (a0.size:Int) > 60 then (some ((⟨#[]⟩:ByteArray),([]:List ByteArray),false,(⟨#[]⟩:ByteArray),false)) else (if (bt205.1.size:Int) < 2 then (some ((⟨#[]⟩:ByteArray),([]:List ByteArray),false,(⟨#[]⟩:ByteArray),false)) else (if 0 ≤ 2 then (if 2 ≤ (bt205.1.size:Int) then (if (bt205.1.extract 0 2).toList = ([47,47]:List UInt8) then ((spec_l1Whole.f k (bt205.1.extract 2 bt205.1.size)).bind fun bt208=>(some (bt208.1,bt208.2.1,bt208.2.2.1,bt208.2.2.2.1,bt208.2.2.2.2))) else (some ((⟨#[]⟩:ByteArray),([]:List ByteArray),false,(⟨#[]⟩:ByteArray),false))) else (none)) else (none))))) = some (r1,r2,r3,r4,r5):=h
 clear h
 replace H:=bI H
 obtain ⟨⟨t205,t206,t207⟩,A20,H⟩:=H
 replace H:(if (a0.size:Int) > 60 then (some ((⟨#[]⟩:ByteArray),([]:List ByteArray),false,(⟨#[]⟩:ByteArray),false)) else (if (t205.size:Int) < 2 then (some ((⟨#[]⟩:ByteArray),([]:List ByteArray),false,(⟨#[]⟩:ByteArray),false)) else (if 0 ≤ 2 then (if 2 ≤ (t205.size:Int) then (if (t205.extract 0 2).toList = ([47,47]:List UInt8) then ((spec_l1Whole.f k (t205.extract 2 t205.size)).bind fun bt208=>(some (bt208.1,bt208.2.1,bt208.2.2.1,bt208.2.2.2.1,bt208.2.2.2.2))) else (some ((⟨#[]⟩:ByteArray),([]:List ByteArray),false,(⟨#[]⟩:ByteArray),false))) else (none)) else (none)))) = some (r1,r2,r3,r4,r5):=H
 have A2:=Am A20
 clear A20
 by_cases c3:(a0.size:Int) > 60
 ·rw [if_pos c3] at H
  have c3b0:decide (60 < (a0.size:Int)) = true:=decide_eq_true c3
  have c3b1:decide (60 < a0.size) = true:=decide_eq_true (by omega)
  clear c3
  simp only [Option.some.injEq,Prod.mk.injEq] at H
  obtain ⟨rfl,rfl,rfl,rfl,rfl⟩:=H
  go_enter Tryd.func25,Tryd.ntmps25
  go_wp2_with (first|((with_reducible refine gate_dst (N:=2) rfl ?_);(try (refine gate_guard (by rfl) ?_;dsimp only));refine box_event ?hg (N:=2) ?hd (cs:=#[.string (⟨#[]⟩:ByteArray), .slice none 0 0, .bool false, .string (⟨#[]⟩:ByteArray)]) (t:=25) ?hr ?_;(case hd=>rfl);(case hg=>rfl);(case hr=>(go_simp <;> rfl));intro gb204 hg w4 hbox hb;have n0_:=Am (bT (by repeat (first|(with_reducible first|exact HB.out|apply bA|apply bN|apply bD)|exact HB.out)) hb);have n1_:=Am (hbox);have n2_:=Am ((by rw [hg];exact (bU (by repeat (first|(with_reducible first|exact HB.out|apply bA|apply bN|apply bD)|exact HB.out))):w.heap.size ≤ gb204));have n3_:=n2_;clear HB;have HB:=n0_;have BK204:=n1_;have GW204:=n2_;have GE204:=n3_;clear n0_ n1_ n2_ n3_ hb hbox hg)|((with_reducible refine gate_callee (f:=32) rfl ?_);refine goesL_ (some 9) rfl rfl Tryd.func32 (by kernel_rfl) rfl #[.string a0, .int .u8 35] rfl (aE2 rfl rfl) ?_;(with_reducible refine (spec_l1Cut.calls k a0 35 t205 t206 t207 _ A2.out).mono ?_);rintro e w' ⟨rfl,⟨nd,rfl⟩⟩;refine ⟨_,rfl,?_⟩;(try (rw [drewN_self w4];generalize hq_:World.drewN w4 _ = w4;have n0_:Aside0 (w4.heap[gb204]? = some (.cells #[.string (⟨#[]⟩:ByteArray), .slice none 0 0, .bool false, .string (⟨#[]⟩:ByteArray)] 25 (0,0))):=⟨by rw [← hq_];exact (bB BK204.out)⟩;have n1_:Aside0 (Below w.heap.size w w4):=⟨by rw [← hq_];exact (by repeat (first|(with_reducible first|exact HB.out|apply bA|apply bN|apply bD|refine bS ?_ GE204.out)|exact HB.out))⟩;clear BK204 HB hq_;have BK204:=n0_;have HB:=n1_;clear n0_ n1_));obtain ⟨hcz5_0,hcz5_1,hcz5_2,hcz5_3,hfz5_0,hfz5_1,hfz5_2,hfz5_3⟩:=bX BK204.out))
  refine bodyPost_ret (results_ct rfl _ _ gb204 25 #[.string (⟨#[]⟩:ByteArray), .slice none 0 0, .bool false, .string (⟨#[]⟩:ByteArray)] (0,0) _ rfl (by refine bB ?_;apply bP;refine bB ?_;exact BK204.out) Tryd.underlying25 rfl (by kernel_rfl)) rfl ?_
  exact ⟨_,by first|rfl|(simp <;> rfl)|(simp [*] <;> rfl),by first|exact Kd.R_nil _ _ _ _ _|exact Kd.N_nil _ _ _ _ _|exact Kd.V_nil _ _ _ _ _|exact Kd.Q_nil _ _ _ _ _|exact Kd.S_nil _ _ _ _ _,by repeat (first|(with_reducible first|exact HB.out|apply bA|apply bN|apply bD|refine bS ?_ GE204.out)|exact HB.out)⟩
 ·rw [if_neg c3] at H
  have c3b0:decide (60 < (a0.size:Int)) = false:=decide_eq_false c3
  have c3b1:decide (60 < a0.size) = false:=decide_eq_false (by omega)
  clear c3
  by_cases c6:(t205.size:Int) < 2
  ·rw [if_pos c6] at H
   have c6b0:decide ((t205.size:Int) < 2) = true:=decide_eq_true c6
   have c6b1:decide (t205.size < 2) = true:=decide_eq_true (by omega)
   clear c6
   simp only [Option.some.injEq,Prod.mk.injEq] at H
   obtain ⟨rfl,rfl,rfl,rfl,rfl⟩:=H
   go_enter Tryd.func25,Tryd.ntmps25
   go_wp2_with (first|((with_reducible refine gate_dst (N:=2) rfl ?_);(try (refine gate_guard (by rfl) ?_;dsimp only));refine box_event ?hg (N:=2) ?hd (cs:=#[.string (⟨#[]⟩:ByteArray), .slice none 0 0, .bool false, .string (⟨#[]⟩:ByteArray)]) (t:=25) ?hr ?_;(case hd=>rfl);(case hg=>rfl);(case hr=>(go_simp <;> rfl));intro gb204 hg w7 hbox hb;have n0_:=Am (bT (by repeat (first|(with_reducible first|exact HB.out|apply bA|apply bN|apply bD)|exact HB.out)) hb);have n1_:=Am (hbox);have n2_:=Am ((by rw [hg];exact (bU (by repeat (first|(with_reducible first|exact HB.out|apply bA|apply bN|apply bD)|exact HB.out))):w.heap.size ≤ gb204));have n3_:=n2_;clear HB;have HB:=n0_;have BK204:=n1_;have GW204:=n2_;have GE204:=n3_;clear n0_ n1_ n2_ n3_ hb hbox hg)|((with_reducible refine gate_callee (f:=32) rfl ?_);refine goesL_ (some 9) rfl rfl Tryd.func32 (by kernel_rfl) rfl #[.string a0, .int .u8 35] rfl (aE2 rfl rfl) ?_;(with_reducible refine (spec_l1Cut.calls k a0 35 t205 t206 t207 _ A2.out).mono ?_);rintro e w' ⟨rfl,⟨nd,rfl⟩⟩;refine ⟨_,rfl,?_⟩;(try (rw [drewN_self w7];generalize hq_:World.drewN w7 _ = w7;have n0_:Aside0 (w7.heap[gb204]? = some (.cells #[.string (⟨#[]⟩:ByteArray), .slice none 0 0, .bool false, .string (⟨#[]⟩:ByteArray)] 25 (0,0))):=⟨by rw [← hq_];exact (bB BK204.out)⟩;have n1_:Aside0 (Below w.heap.size w w7):=⟨by rw [← hq_];exact (by repeat (first|(with_reducible first|exact HB.out|apply bA|apply bN|apply bD|refine bS ?_ GE204.out)|exact HB.out))⟩;clear BK204 HB hq_;have BK204:=n0_;have HB:=n1_;clear n0_ n1_));obtain ⟨hcz8_0,hcz8_1,hcz8_2,hcz8_3,hfz8_0,hfz8_1,hfz8_2,hfz8_3⟩:=bX BK204.out))
   refine bodyPost_ret (results_ct rfl _ _ gb204 25 #[.string (⟨#[]⟩:ByteArray), .slice none 0 0, .bool false, .string (⟨#[]⟩:ByteArray)] (0,0) _ rfl (by refine bB ?_;apply bP;refine bB ?_;exact BK204.out) Tryd.underlying25 rfl (by kernel_rfl)) rfl ?_
   exact ⟨_,by first|rfl|(simp <;> rfl)|(simp [*] <;> rfl),by first|exact Kd.R_nil _ _ _ _ _|exact Kd.N_nil _ _ _ _ _|exact Kd.V_nil _ _ _ _ _|exact Kd.Q_nil _ _ _ _ _|exact Kd.S_nil _ _ _ _ _,by repeat (first|(with_reducible first|exact HB.out|apply bA|apply bN|apply bD|refine bS ?_ GE204.out)|exact HB.out)⟩
  ·rw [if_neg c6] at H
   have c6b0:decide ((t205.size:Int) < 2) = false:=decide_eq_false c6
   have c6b1:decide (t205.size < 2) = false:=decide_eq_false (by omega)
   clear c6
   by_cases c9:0 ≤ 2
   ·rw [if_pos c9] at H
    have c9b0:=eq_true c9
    have c9b1:=decide_eq_true c9
    clear c9
    by_cases c10:2 ≤ (t205.size:Int)
    ·rw [if_pos c10] at H
     have c10b0:=eq_true c10
     have c10b1:=decide_eq_true c10
     clear c10
     by_cases c11:(t205.extract 0 2).toList = ([47,47]:List UInt8)
     ·rw [if_pos c11] at H
      have c11b0:((t205.extract 0 2).toList == ([47,47]:List UInt8)) = true:=beq_iff_eq.mpr c11
      have c11b1:((t205.extract 0 2).toList != ([47,47]:List UInt8)) = false:=bne_eq_false_iff_eq.mpr c11
      clear c11
      have c12b0:=eq_true (oD (by assumption):2 ≤ (t205.size:Int))
      replace H:=bI H
      obtain ⟨⟨t208,t209,t212,t213,t214⟩,A130,H⟩:=H
      replace H:(some (t208,t209,t212,t213,t214)) = some (r1,r2,r3,r4,r5):=H
      have A13:=Am A130
      clear A130
      simp only [Option.some.injEq,Prod.mk.injEq] at H
      obtain ⟨rfl,rfl,rfl,rfl,rfl⟩:=H
      go_enter Tryd.func25,Tryd.ntmps25
      go_wp2_with (first|((with_reducible refine gate_dst (N:=2) rfl ?_);(try (refine gate_guard (by rfl) ?_;dsimp only));refine box_event ?hg (N:=2) ?hd (cs:=#[.string (⟨#[]⟩:ByteArray), .slice none 0 0, .bool false, .string (⟨#[]⟩:ByteArray)]) (t:=25) ?hr ?_;(case hd=>rfl);(case hg=>rfl);(case hr=>(go_simp <;> rfl));intro gb204 hg w14 hbox hb;have n0_:=Am (bT (by repeat (first|(with_reducible first|exact HB.out|apply bA|apply bN|apply bD)|exact HB.out)) hb);have n1_:=Am (hbox);have n2_:=Am ((by rw [hg];exact (bU (by repeat (first|(with_reducible first|exact HB.out|apply bA|apply bN|apply bD)|exact HB.out))):w.heap.size ≤ gb204));have n3_:=n2_;clear HB;have HB:=n0_;have BK204:=n1_;have GW204:=n2_;have GE204:=n3_;clear n0_ n1_ n2_ n3_ hb hbox hg)|((with_reducible refine gate_callee (f:=32) rfl ?_);refine goesL_ (some 9) rfl rfl Tryd.func32 (by kernel_rfl) rfl #[.string a0, .int .u8 35] rfl (aE2 rfl rfl) ?_;(with_reducible refine (spec_l1Cut.calls k a0 35 t205 t206 t207 _ A2.out).mono ?_);rintro e w' ⟨rfl,⟨nd,rfl⟩⟩;refine ⟨_,rfl,?_⟩;(try (rw [drewN_self w14];generalize hq_:World.drewN w14 _ = w14;have n0_:Aside0 (w14.heap[gb204]? = some (.cells #[.string (⟨#[]⟩:ByteArray), .slice none 0 0, .bool false, .string (⟨#[]⟩:ByteArray)] 25 (0,0))):=⟨by rw [← hq_];exact (bB BK204.out)⟩;have n1_:Aside0 (Below w.heap.size w w14):=⟨by rw [← hq_];exact (by repeat (first|(with_reducible first|exact HB.out|apply bA|apply bN|apply bD|refine bS ?_ GE204.out)|exact HB.out))⟩;clear BK204 HB hq_;have BK204:=n0_;have HB:=n1_;clear n0_ n1_)))|((with_reducible refine gate_callee (f:=33) rfl ?_);refine goesL_ (some 29) rfl rfl Tryd.func33 (by kernel_rfl) rfl #[.string (t205.extract 2 t205.size)] rfl (aE1 rfl) ?_;(with_reducible refine (spec_l1Whole.calls k (t205.extract 2 t205.size) t208 t209 t212 t213 t214 _ A13.out).mono ?_);rintro e w15 ⟨v210,rfl,ho0,hb⟩;refine ⟨_,rfl,?_⟩;have n0_:=Am (Kd.R_lower ho0 (bU (by repeat (first|(with_reducible first|exact HB.out|apply bA|apply bN|apply bD|refine bS ?_ GE204.out)|exact HB.out))));have n1_:=Am (blk_below (bB BK204.out) hb);have n2_:=Am (bT (by repeat (first|(with_reducible first|exact HB.out|apply bA|apply bN|apply bD|refine bS ?_ GE204.out)|exact HB.out)) hb);clear BK204 HB;have HO211:=n0_;have BK204:=n1_;have HB:=n2_;clear n0_ n1_ n2_;(try clear hb);(try clear ho0);obtain ⟨hcz16_0,hcz16_1,hcz16_2,hcz16_3,hfz16_0,hfz16_1,hfz16_2,hfz16_3⟩:=bX BK204.out;obtain ⟨Ao17,co17,eo17⟩:=Kd.R_slice HO211.out;subst eo17))
      refine bodyPost_ret (results_ct rfl _ _ gb204 25 #[.string t208, .slice Ao17 t209.length co17, .bool t212, .string t213] (0,0) _ rfl (by refine bB ?_;apply bP;refine bB ?_;exact BK204.out) Tryd.underlying25 rfl (by kernel_rfl)) rfl ?_
      exact ⟨_,by first|rfl|(simp <;> rfl)|(simp [*] <;> rfl),by (with_reducible repeat (first|apply rA|apply rN|apply rD));exact Kd.R_mono (Kd.R_far (p:=⟨gb204,3,none⟩) (Kd.R_far (p:=⟨gb204,2,none⟩) (Kd.R_far (p:=⟨gb204,1,none⟩) (Kd.R_far (p:=⟨gb204,0,none⟩) (Kd.R_types HO211.out BK204.out (by decide)) (fun _ hk=>hk.2) (.string t208)) (fun _ hk=>hk.2) (.slice Ao17 t209.length co17)) (fun _ hk=>hk.2) (.bool t212)) (fun _ hk=>hk.2) (.string t213)) (fun _ hk=>trivial),by repeat (first|(with_reducible first|exact HB.out|apply bA|apply bN|apply bD|refine bS ?_ GE204.out)|exact HB.out)⟩
     ·rw [if_neg c11] at H
      have c11b0:((t205.extract 0 2).toList == ([47,47]:List UInt8)) = false:=beq_eq_false_iff_ne.mpr c11
      have c11b1:((t205.extract 0 2).toList != ([47,47]:List UInt8)) = true:=bne_iff_ne.mpr c11
      simp only [Option.some.injEq,Prod.mk.injEq] at H
      obtain ⟨rfl,rfl,rfl,rfl,rfl⟩:=H
      go_enter Tryd.func25,Tryd.ntmps25
      go_wp2_with (first|((with_reducible refine gate_dst (N:=2) rfl ?_);(try (refine gate_guard (by rfl) ?_;dsimp only));refine box_event ?hg (N:=2) ?hd (cs:=#[.string (⟨#[]⟩:ByteArray), .slice none 0 0, .bool false, .string (⟨#[]⟩:ByteArray)]) (t:=25) ?hr ?_;(case hd=>rfl);(case hg=>rfl);(case hr=>(go_simp <;> rfl));intro gb204 hg w18 hbox hb;have n0_:=Am (bT (by repeat (first|(with_reducible first|exact HB.out|apply bA|apply bN|apply bD)|exact HB.out)) hb);have n1_:=Am (hbox);have n2_:=Am ((by rw [hg];exact (bU (by repeat (first|(with_reducible first|exact HB.out|apply bA|apply bN|apply bD)|exact HB.out))):w.heap.size ≤ gb204));have n3_:=n2_;clear HB;have HB:=n0_;have BK204:=n1_;have GW204:=n2_;have GE204:=n3_;clear n0_ n1_ n2_ n3_ hb hbox hg)|((with_reducible refine gate_callee (f:=32) rfl ?_);refine goesL_ (some 9) rfl rfl Tryd.func32 (by kernel_rfl) rfl #[.string a0, .int .u8 35] rfl (aE2 rfl rfl) ?_;(with_reducible refine (spec_l1Cut.calls k a0 35 t205 t206 t207 _ A2.out).mono ?_);rintro e w' ⟨rfl,⟨nd,rfl⟩⟩;refine ⟨_,rfl,?_⟩;(try (rw [drewN_self w18];generalize hq_:World.drewN w18 _ = w18;have n0_:Aside0 (w18.heap[gb204]? = some (.cells #[.string (⟨#[]⟩:ByteArray), .slice none 0 0, .bool false, .string (⟨#[]⟩:ByteArray)] 25 (0,0))):=⟨by rw [← hq_];exact (bB BK204.out)⟩;have n1_:Aside0 (Below w.heap.size w w18):=⟨by rw [← hq_];exact (by repeat (first|(with_reducible first|exact HB.out|apply bA|apply bN|apply bD|refine bS ?_ GE204.out)|exact HB.out))⟩;clear BK204 HB hq_;have BK204:=n0_;have HB:=n1_;clear n0_ n1_));obtain ⟨hcz19_0,hcz19_1,hcz19_2,hcz19_3,hfz19_0,hfz19_1,hfz19_2,hfz19_3⟩:=bX BK204.out))
      refine bodyPost_ret (results_ct rfl _ _ gb204 25 #[.string (⟨#[]⟩:ByteArray), .slice none 0 0, .bool false, .string (⟨#[]⟩:ByteArray)] (0,0) _ rfl (by refine bB ?_;apply bP;refine bB ?_;exact BK204.out) Tryd.underlying25 rfl (by kernel_rfl)) rfl ?_
      exact ⟨_,by first|rfl|(simp <;> rfl)|(simp [*] <;> rfl),by first|exact Kd.R_nil _ _ _ _ _|exact Kd.N_nil _ _ _ _ _|exact Kd.V_nil _ _ _ _ _|exact Kd.Q_nil _ _ _ _ _|exact Kd.S_nil _ _ _ _ _,by repeat (first|(with_reducible first|exact HB.out|apply bA|apply bN|apply bD|refine bS ?_ GE204.out)|exact HB.out)⟩
    ·rw [if_neg c10] at H
     exact absurd H (by simp)
   ·rw [if_neg c9] at H
    exact absurd H (by simp)

/-! ### spec_l6Rd_pick: function 52 -/
def spec_l6Rd_pick.j0:Nat → Int → Bool → List Int → Int → Option (Int × Int)
 | 0,_,_,_,_=>none
 | k + 1,x1,x24,x1000,x1001=>if x24 = true then (some (0,x1001)) else (if (wrap64 (x1001 - 1)) < (x1000.length:Int) then (if 0 ≤ (wrap64 (x1001 - 1)) then (if x1 = 0 then (none) else (some (Int.tmod (wrap64 (rd x1000 (wrap64 (x1001 - 1)))) x1,x1001))) else (none)) else (if (x1000.length:Int) = 0 then (none) else (if 0 ≤ (Int.tmod (wrap64 (x1001 - 1)) (x1000.length:Int)) then (if (Int.tmod (wrap64 (x1001 - 1)) (x1000.length:Int)) < (x1000.length:Int) then (if 0 ≤ (Int.tmod (wrap64 ((wrap64 ((wrap64 (x1001 - 1)) * 7)) + 3)) (x1000.length:Int)) then (if (Int.tmod (wrap64 ((wrap64 ((wrap64 (x1001 - 1)) * 7)) + 3)) (x1000.length:Int)) < (x1000.length:Int) then (if x1 = 0 then (none) else (some (Int.tmod (Go.bits .xor .i64 (wrap64 ((wrap64 ((wrap64 ((wrap64 ((wrap64 (rd x1000 (Int.tmod (wrap64 (x1001 - 1)) (x1000.length:Int)))) * 131)) + (wrap64 ((wrap64 (rd x1000 (Int.tmod (wrap64 ((wrap64 ((wrap64 (x1001 - 1)) * 7)) + 3)) (x1000.length:Int)))) * 1117)))) + (wrap64 ((wrap64 (x1001 - 1)) * 29)))) + (wrap64 ((wrap64 (Int.tdiv (wrap64 (x1001 - 1)) (x1000.length:Int))) * 53)))) (wrap64 (Int.tdiv (wrap64 ((wrap64 ((wrap64 ((wrap64 ((wrap64 (rd x1000 (Int.tmod (wrap64 (x1001 - 1)) (x1000.length:Int)))) * 131)) + (wrap64 ((wrap64 (rd x1000 (Int.tmod (wrap64 ((wrap64 ((wrap64 (x1001 - 1)) * 7)) + 3)) (x1000.length:Int)))) * 1117)))) + (wrap64 ((wrap64 (x1001 - 1)) * 29)))) + (wrap64 ((wrap64 (Int.tdiv (wrap64 (x1001 - 1)) (x1000.length:Int))) * 53)))) 64))) x1,x1001))) else (none)) else (none)) else (none)) else (none))))
def spec_l6Rd_pick.f (k:Nat) (s0_0:List Int) (s0_1:Int) (a1:Int):Option (Int × Int):=if a1 < 1 then (spec_l6Rd_pick.j0 k a1 true s0_0 (wrap64 (s0_1 + 1))) else (spec_l6Rd_pick.j0 k a1 ((s0_0.length:Int) == 0) s0_0 (wrap64 (s0_1 + 1)))
theorem spec_l6Rd_pick.mono_l:∀ k,(∀ y0 y1 y2 y3,LeO (spec_l6Rd_pick.j0 k y0 y1 y2 y3) (spec_l6Rd_pick.j0 (k + 1) y0 y1 y2 y3))
 | 0=>fun _ _ _ _ r h=>by simp [spec_l6Rd_pick.j0] at h
 | k + 1=>by
  have ih0:=spec_l6Rd_pick.mono_l k
  ·intro y0 y1 y2 y3
   unfold spec_l6Rd_pick.j0
   repeat' first
   | (with_reducible apply ih0)
   | (with_reducible exact LeO.refl _)
   | (with_reducible exact LeO.none _)
   | (with_reducible refine LeO.ite ?_ ?_)
   | (with_reducible refine LeO.bind ?_ (fun _=>?_))




theorem spec_l6Rd_pick.mono:∀ a0 a1 a2 k,LeO (spec_l6Rd_pick.f k a0 a1 a2) (spec_l6Rd_pick.f (k + 1) a0 a1 a2):=by
 intro a0 a1 a2 k
 have ih0:=spec_l6Rd_pick.mono_l k
 unfold spec_l6Rd_pick.f
 repeat' first
   | (with_reducible apply ih0)
   | (with_reducible exact LeO.refl _)
   | (with_reducible exact LeO.none _)
   | (with_reducible refine LeO.ite ?_ ?_)
   | (with_reducible refine LeO.bind ?_ (fun _=>?_))




theorem spec_l6Rd_pick.calls (k:Nat) (g:Nat) (s0_0:List Int) (s0_1:Int) (a1:Int) (r1:Int) (r2:Int) (w0 w:World) (hI:IsS60 w0 w g s0_0 s0_1) (hB:Below w0.heap.size w0 w) (h:spec_l6Rd_pick.f k s0_0 s0_1 a1 = some (r1,r2)) :
  Calls Tryd.prog 52 #[.pointer (some ⟨g,0,none⟩), .int .i64 a1] w fun e w'=>e = .returned (.int .i64 r1) ∧ IsS60 w0 w' g s0_0 r2 ∧ Below w0.heap.size w0 w' ∧ KeepBut w w' g none:=by
 have HI0:=Am hI
 have HK:=Am (KeepBut.refl w g none)
 have HL:=Am hB.size
 clear hI
 have HW0:=Am hB.size
 have HB:=Am hB
 clear hB
 have H:(if a1 < 1 then (spec_l6Rd_pick.j0 k a1 true s0_0 (wrap64 (s0_1 + 1))) else (spec_l6Rd_pick.j0 k a1 ((s0_0.length:Int) == 0) s0_0 (wrap64 (s0_1 + 1)))) = some (r1,r2):=h
 clear h
 have HC3:=Am H
 clear H
 obtain ⟨ASz4_0,cSz4_0,HGz4,hgz4,HSz4_0⟩:=HI0.out
 have hcz4_0:=cellS60_0 HGz4
 have hcz4_1:=cellS60_1 HGz4
 have hfz4_1:=blk_frozen HGz4 1
 clear HGz4 hgz4
 go_enter Tryd.func52,Tryd.ntmps52
 go_upto_region 2 with (fail)
 repeat (go_quiet (fail);go_upto_region 2 with (fail))
 go_cut [24] (fun v24 wc=>∃ (kq:Nat) (x24_2:Bool),v24 = .bool x24_2 ∧ Aside0 (spec_l6Rd_pick.j0 kq a1 x24_2 s0_0 (wrap64 (s0_1 + 1)) = some (r1,r2)) ∧ Aside0 (kq ≤ k) ∧ Aside0 (IsS60 w0 wc g s0_0 (wrap64 (s0_1 + 1))) ∧ Aside0 (KeepBut w wc g none) ∧ Aside0 (Below w0.heap.size w0 wc))
 case first =>
  have H:=HC3.out
  clear HC3
  by_cases c5:a1 < 1
  ·rw [if_pos c5] at H
   have c5b0:decide (a1 < 1) = true:=decide_eq_true c5
   clear c5
   (first|rw [c5b0]|(simp only [i64_w,i32_w];rw [c5b0])|skip)
   have H':=Am H
   clear H
   go_wp2
   repeat (go_quiet (fail);try go_wp2)
   go_meet
   case rel=>exact ⟨_,(true),(by first|rfl|(simp;done)|(simp only [i64_w,i32_w] <;> rfl)|(simp [*];done)|(simp [emp_bne,emp_beq];done)),H',⟨by first|omega|exact Nat.le_refl _⟩,⟨by repeat (first|(with_reducible first|exact HI0.out|apply IsS60.alloc|apply IsS60.drewN|apply IsS60.drew|apply IsS60.set_1)|exact HI0.out)⟩,⟨by repeat (first|(with_reducible first|exact HK.out|apply KeepBut.set_|apply kN|apply kD|apply kA)|exact HK.out)⟩,⟨by repeat (first|(with_reducible first|exact HB.out|apply bA|apply bN|apply bD|refine bS ?_ (IsS60.ge HI0.out))|exact HB.out)⟩⟩
  ·rw [if_neg c5] at H
   have c5b0:decide (a1 < 1) = false:=decide_eq_false c5
   clear c5
   (first|rw [c5b0]|(simp only [i64_w,i32_w];rw [c5b0])|skip)
   have H':=Am H
   clear H
   obtain ⟨ASz6_0,cSz6_0,HGz6,hgz6,HSz6_0⟩:=HI0.out
   have hcz6_0:=cellS60_0 HGz6
   have hcz6_1:=cellS60_1 HGz6
   have hfz6_1:=blk_frozen HGz6 1
   clear HGz6 hgz6
   go_wp2
   repeat (go_quiet (fail);try go_wp2)
   go_meet
   case rel=>exact ⟨_,(((s0_0.length:Int) == 0)),(by first|rfl|(simp;done)|(simp only [i64_w,i32_w] <;> rfl)|(simp [*];done)|(simp [emp_bne,emp_beq];done)),H',⟨by first|omega|exact Nat.le_refl _⟩,⟨by repeat (first|(with_reducible first|exact HI0.out|apply IsS60.alloc|apply IsS60.drewN|apply IsS60.drew|apply IsS60.set_1)|exact HI0.out)⟩,⟨by repeat (first|(with_reducible first|exact HK.out|apply KeepBut.set_|apply kN|apply kD|apply kA)|exact HK.out)⟩,⟨by repeat (first|(with_reducible first|exact HB.out|apply bA|apply bN|apply bD|refine bS ?_ (IsS60.ge HI0.out))|exact HB.out)⟩⟩
 case rest =>
  clear HC3
  try clear p2
  try clear c5
  try clear c5b0
  try clear p6
  try clear hcz4_0
  try clear hcz4_1
  try clear hcz6_0
  try clear hcz6_1
  try clear hfz4_1
  try clear hfz6_1
  obtain ⟨kq,x24_2,rfl,HA,HJ2,HI0,HK,HB⟩:=hcut
  cases kq with
  | zero=>exact absurd HA.out (by simp [spec_l6Rd_pick.j0])
  | succ kj2 =>
   have H:=HA.out
   clear HA
   simp only [spec_l6Rd_pick.j0] at H
   by_cases c7:x24_2 = true
   ·subst c7
    have H1:(some (0,(wrap64 (s0_1 + 1)))) = some (r1,r2):=by rw [if_pos rfl] at H;exact H
    clear H
    have H:=H1
    clear H1
    simp only [Option.some.injEq,Prod.mk.injEq] at H
    obtain ⟨rfl,rfl⟩:=H
    go_wp2
    repeat (go_quiet (fail);try go_wp2)
    go_ret
    exact ⟨by first|rfl|(simp <;> rfl)|(simp [*] <;> rfl),by repeat (first|(with_reducible first|exact HI0.out|apply IsS60.alloc|apply IsS60.drewN|apply IsS60.drew|apply IsS60.set_1)|exact HI0.out),by repeat (first|(with_reducible first|exact HB.out|apply bA|apply bN|apply bD|refine bS ?_ (IsS60.ge HI0.out))|exact HB.out),by repeat (first|(with_reducible first|exact HK.out|apply KeepBut.set_|apply kN|apply kD|apply kA)|exact HK.out)⟩
   ·replace c7:=Bool.eq_false_iff.mpr c7
    subst c7
    have H1:(if (wrap64 ((wrap64 (s0_1 + 1)) - 1)) < (s0_0.length:Int) then (if 0 ≤ (wrap64 ((wrap64 (s0_1 + 1)) - 1)) then (if a1 = 0 then (none) else (some (Int.tmod (wrap64 (rd s0_0 (wrap64 ((wrap64 (s0_1 + 1)) - 1)))) a1,(wrap64 (s0_1 + 1))))) else (none)) else (if (s0_0.length:Int) = 0 then (none) else (if 0 ≤ (Int.tmod (wrap64 ((wrap64 (s0_1 + 1)) - 1)) (s0_0.length:Int)) then (if (Int.tmod (wrap64 ((wrap64 (s0_1 + 1)) - 1)) (s0_0.length:Int)) < (s0_0.length:Int) then (if 0 ≤ (Int.tmod (wrap64 ((wrap64 ((wrap64 ((wrap64 (s0_1 + 1)) - 1)) * 7)) + 3)) (s0_0.length:Int)) then (if (Int.tmod (wrap64 ((wrap64 ((wrap64 ((wrap64 (s0_1 + 1)) - 1)) * 7)) + 3)) (s0_0.length:Int)) < (s0_0.length:Int) then (if a1 = 0 then (none) else (some (Int.tmod (Go.bits .xor .i64 (wrap64 ((wrap64 ((wrap64 ((wrap64 ((wrap64 (rd s0_0 (Int.tmod (wrap64 ((wrap64 (s0_1 + 1)) - 1)) (s0_0.length:Int)))) * 131)) + (wrap64 ((wrap64 (rd s0_0 (Int.tmod (wrap64 ((wrap64 ((wrap64 ((wrap64 (s0_1 + 1)) - 1)) * 7)) + 3)) (s0_0.length:Int)))) * 1117)))) + (wrap64 ((wrap64 ((wrap64 (s0_1 + 1)) - 1)) * 29)))) + (wrap64 ((wrap64 (Int.tdiv (wrap64 ((wrap64 (s0_1 + 1)) - 1)) (s0_0.length:Int))) * 53)))) (wrap64 (Int.tdiv (wrap64 ((wrap64 ((wrap64 ((wrap64 ((wrap64 (rd s0_0 (Int.tmod (wrap64 ((wrap64 (s0_1 + 1)) - 1)) (s0_0.length:Int)))) * 131)) + (wrap64 ((wrap64 (rd s0_0 (Int.tmod (wrap64 ((wrap64 ((wrap64 ((wrap64 (s0_1 + 1)) - 1)) * 7)) + 3)) (s0_0.length:Int)))) * 1117)))) + (wrap64 ((wrap64 ((wrap64 (s0_1 + 1)) - 1)) * 29)))) + (wrap64 ((wrap64 (Int.tdiv (wrap64 ((wrap64 (s0_1 + 1)) - 1)) (s0_0.length:Int))) * 53)))) 64))) a1,(wrap64 (s0_1 + 1))))) else (none)) else (none)) else (none)) else (none)))) = some (r1,r2):=by rw [if_neg (show ¬ (false = true) by decide)] at H;exact H
    clear H
    have H:=H1
    clear H1
    by_cases c8:(wrap64 ((wrap64 (s0_1 + 1)) - 1)) < (s0_0.length:Int)
    ·rw [if_pos c8] at H
     have c8b0:decide ((wrap64 ((wrap64 (s0_1 + 1)) - 1)) < (s0_0.length:Int)) = true:=decide_eq_true c8
     clear c8
     obtain ⟨ji9,hji9⟩:∃ j_:Int,(wrap64 ((wrap64 (s0_1 + 1)) - 1)) = j_:=⟨_,rfl⟩
     replace H:(if 0 ≤ (ji9) then (if a1 = 0 then (none) else (some (Int.tmod (wrap64 (rd s0_0 (ji9))) a1,(wrap64 (s0_1 + 1))))) else (none)) = some (r1,r2):=by first|(rw [hji9] at H;exact H)|(simp only [hji9] at H ⊢;exact H)
     (try rw [hji9] at c8b0)
     have hji9w:(IntKind.i64.wrap ((wrap64 (s0_1 + 1)) - 1)) = ji9:=(i64_w _).trans hji9
     by_cases c10:0 ≤ (ji9)
     ·rw [if_pos c10] at H
      have c10b0:decide (0 ≤ (ji9)) = true:=decide_eq_true c10
      clear c10
      by_cases c11:a1 = 0
      ·rw [if_pos c11] at H
       exact absurd H (by simp)
      ·rw [if_neg c11] at H
       have c11b0:(a1 == 0) = false:=beq_eq_false_iff_ne.mpr c11
       have c11b1:(a1 != 0) = true:=bne_iff_ne.mpr c11
       simp only [Option.some.injEq,Prod.mk.injEq] at H
       obtain ⟨rfl,rfl⟩:=H
       obtain ⟨ASz12_0,cSz12_0,HGz12,hgz12,HSz12_0⟩:=HI0.out
       have hcz12_0:=cellS60_0 HGz12
       have hcz12_1:=cellS60_1 HGz12
       have hfz12_1:=blk_frozen HGz12 1
       clear HGz12 hgz12
       have p215:0 ≤ ((ji9):Int):=oD (by assumption)
       have q215:(ji9) < (s0_0.length:Int):=oD (by assumption)
       obtain ⟨ad215,e215,hx215_0⟩:=Kd.at_int HSz12_0 (ji9) p215 q215
       cases e215
       replace hx215_0:=pw_cell_below HB.out hx215_0
       replace p215:=eq_true p215
       replace q215:=eq_true q215
       go_wp2
       repeat (go_quiet (fail);try go_wp2)
       go_ret
       exact ⟨by first|rfl|(simp <;> rfl)|(simp only [← hji9];first|rfl|(simp <;> rfl))|(simp [*] <;> rfl),by repeat (first|(with_reducible first|exact HI0.out|apply IsS60.alloc|apply IsS60.drewN|apply IsS60.drew|apply IsS60.set_1)|exact HI0.out),by repeat (first|(with_reducible first|exact HB.out|apply bA|apply bN|apply bD|refine bS ?_ (IsS60.ge HI0.out))|exact HB.out),by repeat (first|(with_reducible first|exact HK.out|apply KeepBut.set_|apply kN|apply kD|apply kA)|exact HK.out)⟩
     ·rw [if_neg c10] at H
      exact absurd H (by simp)
    ·rw [if_neg c8] at H
     have c8b0:decide ((wrap64 ((wrap64 (s0_1 + 1)) - 1)) < (s0_0.length:Int)) = false:=decide_eq_false c8
     clear c8
     by_cases c13:(s0_0.length:Int) = 0
     ·rw [if_pos c13] at H
      exact absurd H (by simp)
     ·rw [if_neg c13] at H
      have c13b0:((s0_0.length:Int) == 0) = false:=beq_eq_false_iff_ne.mpr c13
      have c13b1:((s0_0.length:Int) != 0) = true:=bne_iff_ne.mpr c13
      have c13b2:¬ (s0_0 = []):=fun h_=>c13 (by rw [h_];rfl)
      obtain ⟨ji14,hji14⟩:∃ j_:Int,(Int.tmod (wrap64 ((wrap64 (s0_1 + 1)) - 1)) (s0_0.length:Int)) = j_:=⟨_,rfl⟩
      replace H:(if 0 ≤ (ji14) then (if (ji14) < (s0_0.length:Int) then (if 0 ≤ (Int.tmod (wrap64 ((wrap64 ((wrap64 ((wrap64 (s0_1 + 1)) - 1)) * 7)) + 3)) (s0_0.length:Int)) then (if (Int.tmod (wrap64 ((wrap64 ((wrap64 ((wrap64 (s0_1 + 1)) - 1)) * 7)) + 3)) (s0_0.length:Int)) < (s0_0.length:Int) then (if a1 = 0 then (none) else (some (Int.tmod (Go.bits .xor .i64 (wrap64 ((wrap64 ((wrap64 ((wrap64 ((wrap64 (rd s0_0 (ji14))) * 131)) + (wrap64 ((wrap64 (rd s0_0 (Int.tmod (wrap64 ((wrap64 ((wrap64 ((wrap64 (s0_1 + 1)) - 1)) * 7)) + 3)) (s0_0.length:Int)))) * 1117)))) + (wrap64 ((wrap64 ((wrap64 (s0_1 + 1)) - 1)) * 29)))) + (wrap64 ((wrap64 (Int.tdiv (wrap64 ((wrap64 (s0_1 + 1)) - 1)) (s0_0.length:Int))) * 53)))) (wrap64 (Int.tdiv (wrap64 ((wrap64 ((wrap64 ((wrap64 ((wrap64 (rd s0_0 (ji14))) * 131)) + (wrap64 ((wrap64 (rd s0_0 (Int.tmod (wrap64 ((wrap64 ((wrap64 ((wrap64 (s0_1 + 1)) - 1)) * 7)) + 3)) (s0_0.length:Int)))) * 1117)))) + (wrap64 ((wrap64 ((wrap64 (s0_1 + 1)) - 1)) * 29)))) + (wrap64 ((wrap64 (Int.tdiv (wrap64 ((wrap64 (s0_1 + 1)) - 1)) (s0_0.length:Int))) * 53)))) 64))) a1,(wrap64 (s0_1 + 1))))) else (none)) else (none)) else (none)) else (none)) = some (r1,r2):=by first|(rw [hji14] at H;exact H)|(simp only [hji14] at H ⊢;exact H)
      by_cases c15:0 ≤ (ji14)
      ·rw [if_pos c15] at H
       have c15b0:decide (0 ≤ (ji14)) = true:=decide_eq_true c15
       clear c15
       by_cases c16:(ji14) < (s0_0.length:Int)
       ·rw [if_pos c16] at H
        have c16b0:decide ((ji14) < (s0_0.length:Int)) = true:=decide_eq_true c16
        clear c16
        obtain ⟨ji17,hji17⟩:∃ j_:Int,(Int.tmod (wrap64 ((wrap64 ((wrap64 ((wrap64 (s0_1 + 1)) - 1)) * 7)) + 3)) (s0_0.length:Int)) = j_:=⟨_,rfl⟩
        replace H:(if 0 ≤ (ji17) then (if (ji17) < (s0_0.length:Int) then (if a1 = 0 then (none) else (some (Int.tmod (Go.bits .xor .i64 (wrap64 ((wrap64 ((wrap64 ((wrap64 ((wrap64 (rd s0_0 (ji14))) * 131)) + (wrap64 ((wrap64 (rd s0_0 (ji17))) * 1117)))) + (wrap64 ((wrap64 ((wrap64 (s0_1 + 1)) - 1)) * 29)))) + (wrap64 ((wrap64 (Int.tdiv (wrap64 ((wrap64 (s0_1 + 1)) - 1)) (s0_0.length:Int))) * 53)))) (wrap64 (Int.tdiv (wrap64 ((wrap64 ((wrap64 ((wrap64 ((wrap64 (rd s0_0 (ji14))) * 131)) + (wrap64 ((wrap64 (rd s0_0 (ji17))) * 1117)))) + (wrap64 ((wrap64 ((wrap64 (s0_1 + 1)) - 1)) * 29)))) + (wrap64 ((wrap64 (Int.tdiv (wrap64 ((wrap64 (s0_1 + 1)) - 1)) (s0_0.length:Int))) * 53)))) 64))) a1,(wrap64 (s0_1 + 1))))) else (none)) else (none)) = some (r1,r2):=by first|(rw [hji17] at H;exact H)|(simp only [hji17] at H ⊢;exact H)
        by_cases c18:0 ≤ (ji17)
        ·rw [if_pos c18] at H
         have c18b0:decide (0 ≤ (ji17)) = true:=decide_eq_true c18
         clear c18
         by_cases c19:(ji17) < (s0_0.length:Int)
         ·rw [if_pos c19] at H
          have c19b0:decide ((ji17) < (s0_0.length:Int)) = true:=decide_eq_true c19
          clear c19
          by_cases c20:a1 = 0
          ·rw [if_pos c20] at H
           exact absurd H (by simp)
          ·rw [if_neg c20] at H
           have c20b0:(a1 == 0) = false:=beq_eq_false_iff_ne.mpr c20
           have c20b1:(a1 != 0) = true:=bne_iff_ne.mpr c20
           simp only [Option.some.injEq,Prod.mk.injEq] at H
           obtain ⟨rfl,rfl⟩:=H
           obtain ⟨ASz21_0,cSz21_0,HGz21,hgz21,HSz21_0⟩:=HI0.out
           have hcz21_0:=cellS60_0 HGz21
           have hcz21_1:=cellS60_1 HGz21
           have hfz21_1:=blk_frozen HGz21 1
           clear HGz21 hgz21
           have p216:0 ≤ ((ji14):Int):=oD (by assumption)
           have q216:(ji14) < (s0_0.length:Int):=oD (by assumption)
           obtain ⟨ad216,e216,hx216_0⟩:=Kd.at_int HSz21_0 (ji14) p216 q216
           cases e216
           replace hx216_0:=pw_cell_below HB.out hx216_0
           replace p216:=eq_true p216
           replace q216:=eq_true q216
           have p217:0 ≤ ((ji17):Int):=oD (by assumption)
           have q217:(ji17) < (s0_0.length:Int):=oD (by assumption)
           obtain ⟨ad217,e217,hx217_0⟩:=Kd.at_int HSz21_0 (ji17) p217 q217
           obtain rfl:ad216 = ad217:=(by injection e217)
           replace hx217_0:=pw_cell_below HB.out hx217_0
           replace p217:=eq_true p217
           replace q217:=eq_true q217
           go_wp2
           repeat (go_quiet (fail);try go_wp2)
           go_ret
           exact ⟨by first|rfl|(simp <;> rfl)|(simp only [← hji14,← hji17];first|rfl|(simp <;> rfl))|(simp [*] <;> rfl),by repeat (first|(with_reducible first|exact HI0.out|apply IsS60.alloc|apply IsS60.drewN|apply IsS60.drew|apply IsS60.set_1)|exact HI0.out),by repeat (first|(with_reducible first|exact HB.out|apply bA|apply bN|apply bD|refine bS ?_ (IsS60.ge HI0.out))|exact HB.out),by repeat (first|(with_reducible first|exact HK.out|apply KeepBut.set_|apply kN|apply kD|apply kA)|exact HK.out)⟩
         ·rw [if_neg c19] at H
          exact absurd H (by simp)
        ·rw [if_neg c18] at H
         exact absurd H (by simp)
       ·rw [if_neg c16] at H
        exact absurd H (by simp)
      ·rw [if_neg c15] at H
       exact absurd H (by simp)

/-! ### spec_l6Rd_of: function 53 -/
def spec_l6Rd_of.f (k:Nat) (s0_0:List Int) (s0_1:Int) (l1:List ByteArray):Option (ByteArray × Int):=(spec_l6Rd_pick.f k s0_0 s0_1 (l1.length:Int)).bind fun bt218=>(if 0 ≤ bt218.1 then (if bt218.1 < (l1.length:Int) then (some (rdOf ByteArray.empty l1 bt218.1,bt218.2)) else (none)) else (none))
theorem spec_l6Rd_of.mono:∀ a0 a1 a2 k,LeO (spec_l6Rd_of.f k a0 a1 a2) (spec_l6Rd_of.f (k + 1) a0 a1 a2):=by
 intro a0 a1 a2 k
 unfold spec_l6Rd_of.f
 repeat' first
   | (with_reducible apply spec_l6Rd_pick.mono)
   | (with_reducible exact LeO.refl _)
   | (with_reducible exact LeO.none _)
   | (with_reducible refine LeO.ite ?_ ?_)
   | (with_reducible refine LeO.bind ?_ (fun _=>?_))




theorem spec_l6Rd_of.calls (k:Nat) (g:Nat) (s0_0:List Int) (s0_1:Int) (A1:Option Addr) (c1:Nat) (l1:List ByteArray) (r1:ByteArray) (r2:Int) (w0 w:World) (hI:IsS60 w0 w g s0_0 s0_1) (hB:Below w0.heap.size w0 w) (hr1:Kd.C Kd.string w A1 l1.length l1) (hc1:l1.length ≤ c1) (hf1:∀ ad,A1 = some ad → 0 < l1.length → ad.block ≠ g) (h:spec_l6Rd_of.f k s0_0 s0_1 l1 = some (r1,r2)) :
  Calls Tryd.prog 53 #[.pointer (some ⟨g,0,none⟩), .slice A1 l1.length c1] w fun e w'=>e = .returned (.string r1) ∧ IsS60 w0 w' g s0_0 r2 ∧ Below w0.heap.size w0 w' ∧ KeepBut w w' g none:=by
 have HR1:=Am hr1
 have HC1:=Am hc1
 clear hr1 hc1
 have HI0:=Am hI
 have HK:=Am (KeepBut.refl w g none)
 have HL:=Am hB.size
 clear hI
 have HW0:=Am hB.size
 have HB:=Am hB
 clear hB
 have H:((spec_l6Rd_pick.f k s0_0 s0_1 (l1.length:Int)).bind fun bt218=>(if 0 ≤ bt218.1 then (if bt218.1 < (l1.length:Int) then (some (rdOf ByteArray.empty l1 bt218.1,bt218.2)) else (none)) else (none))) = some (r1,r2):=h
 clear h
 replace H:=bI H
 obtain ⟨⟨t218,t219⟩,A30,H⟩:=H
 replace H:(if 0 ≤ t218 then (if t218 < (l1.length:Int) then (some (rdOf ByteArray.empty l1 t218,t219)) else (none)) else (none)) = some (r1,r2):=H
 have A3:=Am A30
 clear A30
 by_cases c4:0 ≤ t218
 ·rw [if_pos c4] at H
  have c4b0:decide (0 ≤ t218) = true:=decide_eq_true c4
  clear c4
  by_cases c5:t218 < (l1.length:Int)
  ·rw [if_pos c5] at H
   have c5b0:decide (t218 < (l1.length:Int)) = true:=decide_eq_true c5
   clear c5
   simp only [Option.some.injEq,Prod.mk.injEq] at H
   obtain ⟨rfl,rfl⟩:=H
   go_enter Tryd.func53,Tryd.ntmps53
   go_wp2_with (first|((with_reducible refine gate_callee (f:=52) rfl ?_);refine goesL_ (some 9) rfl rfl Tryd.func52 (by kernel_rfl) rfl #[.pointer (some ⟨g,0,none⟩), .int .i64 (l1.length:Int)] rfl (aE2 rfl rfl) ?_;(with_reducible refine (spec_l6Rd_pick.calls k g s0_0 s0_1 (l1.length:Int) t218 t219 w0 _ ?side1 ?side2 A3.out).mono ?_);(case side1=>repeat (first|(with_reducible first|exact HI0.out|apply IsS60.alloc|apply IsS60.drewN|apply IsS60.drew|apply IsS60.set_1)|exact HI0.out));(case side2=>repeat (first|(with_reducible first|exact HB.out|apply bA|apply bN|apply bD|refine bS ?_ (IsS60.ge HI0.out))|exact HB.out));rintro e w6 ⟨rfl,hi,hb,hk⟩;refine ⟨_,rfl,?_⟩;have n0_:=Am (KeepBut.trans (by repeat (first|(with_reducible first|exact HK.out|apply KeepBut.set_|apply kN|apply kD|apply kA)|exact HK.out)) hk (.inl rfl));have n1_:=Am (hb);have n2_:=Am (hi);clear HK HB HI0;have HK:=n0_;have HB:=n1_;have HI0:=n2_;clear n0_ n1_ n2_;(try clear hb hk hi);have p220:0 ≤ (t218:Int):=oD (by assumption);have q220:t218 < (l1.length:Int):=oD (by assumption);obtain ⟨ad220,e220,hx220_0⟩:=Kd.at_string HR1.out t218 p220 q220;cases e220;replace hx220_0:=keep_cell HK.out hx220_0 (by first|(rw [add_block];exact hf1 _ rfl (by omega))|exact hf1 _ rfl (by omega)|exact hf1 ad220 rfl (by omega));replace p220:=eq_true p220;replace q220:=eq_true q220))
   go_ret
   exact ⟨by first|rfl|(simp <;> rfl)|(simp [*] <;> rfl),by repeat (first|(with_reducible first|exact HI0.out|apply IsS60.alloc|apply IsS60.drewN|apply IsS60.drew|apply IsS60.set_1)|exact HI0.out),by repeat (first|(with_reducible first|exact HB.out|apply bA|apply bN|apply bD|refine bS ?_ (IsS60.ge HI0.out))|exact HB.out),by repeat (first|(with_reducible first|exact HK.out|apply KeepBut.set_|apply kN|apply kD|apply kA)|exact HK.out)⟩
  ·rw [if_neg c5] at H
   exact absurd H (by simp)
 ·rw [if_neg c4] at H
  exact absurd H (by simp)

/-! ### spec_l71Houses: function 75 -/
def spec_l71Houses.f :Option (List ByteArray):=some (([(⟨#[97,98]⟩:ByteArray),(⟨#[99,100]⟩:ByteArray),(⟨#[101]⟩:ByteArray),(⟨#[102,111,120]⟩:ByteArray)]:List ByteArray))
theorem spec_l71Houses.calls  (r:List ByteArray) (w:World) (h:spec_l71Houses.f  = some r) :
  Calls Tryd.prog 75 #[] w fun e w'=>∃ v0_:Value,e = .returned (v0_) ∧ Kd.R Kd.string 9 w' w.heap.size (fun _=>True) v0_ r ∧ Below w.heap.size w w':=by
 have HB:=Am (Below.refl w.heap.size w)
 have H:(some (([(⟨#[97,98]⟩:ByteArray),(⟨#[99,100]⟩:ByteArray),(⟨#[101]⟩:ByteArray),(⟨#[102,111,120]⟩:ByteArray)]:List ByteArray))) = some r:=h
 clear h
 obtain ⟨y221,hy221⟩:∃ y_:List ByteArray,y_ = (([(⟨#[97,98]⟩:ByteArray),(⟨#[99,100]⟩:ByteArray),(⟨#[101]⟩:ByteArray),(⟨#[102,111,120]⟩:ByteArray)]:List ByteArray)):=⟨_,rfl⟩
 replace H:(some y221) = some r:=by first|(rw [hy221];with_reducible exact H)|(have H2_:=(Option.bind_some _ _).symm.trans H;rw [hy221];with_reducible exact H2_)|(have H2_:=(Option.bind_some _ _).symm.trans H;with_reducible exact H2_)|with_reducible exact H|(rw [hy221];exact H)|exact H
 have Ny221:=Am hy221
 clear hy221
 obtain rfl:=Option.some.inj H
 go_enter Tryd.func75,Tryd.ntmps75
 go_wp2_with (first|((with_reducible refine gate_dst (N:=1) rfl ?_);refine Kd.R_lit Kd.string _ 9 ?hg (N:=1) ?hd (xs:=([(⟨#[97,98]⟩:ByteArray),(⟨#[99,100]⟩:ByteArray),(⟨#[101]⟩:ByteArray),(⟨#[102,111,120]⟩:ByteArray)]:List ByteArray)) (inner:=[.string (⟨#[97,98]⟩:ByteArray), .string (⟨#[99,100]⟩:ByteArray), .string (⟨#[101]⟩:ByteArray), .string (⟨#[102,111,120]⟩:ByteArray)]) (ok:=fun _=>True) (okp:=fun _=>True) ?hr ?hp (fun _ hk=>hk) trivial (Below.refl _ _) (Nat.le_refl _) (by simp) ?_;(case hd=>rfl);(case hg=>rfl);(case hr=>(go_simp <;> rfl));(case hp=>exact (Reps.one (show Kd.M Kd.string _ _ _ (⟨#[97,98]⟩:ByteArray) [.string (⟨#[97,98]⟩:ByteArray)] from rfl) (Reps.one (show Kd.M Kd.string _ _ _ (⟨#[99,100]⟩:ByteArray) [.string (⟨#[99,100]⟩:ByteArray)] from rfl) (Reps.one (show Kd.M Kd.string _ _ _ (⟨#[101]⟩:ByteArray) [.string (⟨#[101]⟩:ByteArray)] from rfl) (Reps.one (show Kd.M Kd.string _ _ _ (⟨#[102,111,120]⟩:ByteArray) [.string (⟨#[102,111,120]⟩:ByteArray)] from rfl) (Reps.none _ _))))));intro v222 w1 ho2 hb hg_ hnew_;clear hg_ hnew_;(first|rw [← Ny221.out] at ho2|(simp only [Int.reduceToNat] at ho2;rw [← Ny221.out] at ho2));have n0_:=Am (Kd.R_lower ho2 (bU (by repeat (first|(with_reducible first|exact HB.out|apply bA|apply bN|apply bD)|exact HB.out))));have n1_:=Am (bT (by repeat (first|(with_reducible first|exact HB.out|apply bA|apply bN|apply bD)|exact HB.out)) hb);clear HB;have HO223:=n0_;have HB:=n1_;clear n0_ n1_ hb ho2))
 go_ret
 exact ⟨_,by first|rfl|(simp <;> rfl)|(simp [*] <;> rfl),by (with_reducible repeat (first|apply rA|apply rN|apply rD));exact HO223.out,by repeat (first|(with_reducible first|exact HB.out|apply bA|apply bN|apply bD)|exact HB.out)⟩

/-! ### spec_AddrText: function 76 -/
def spec_AddrText.f (k:Nat) (a0_0:ByteArray) (l0_1:List ByteArray) (a0_2:Bool) (a0_3:ByteArray):Option (ByteArray):=(spec_AddrOk.f k a0_0 l0_1 a0_2 a0_3).bind fun t225=>(if t225 = true then ((spec_l1Text.f k a0_0 l0_1 a0_2 a0_3).bind fun t226=>(some t226)) else (some (⟨#[]⟩:ByteArray)))
theorem spec_AddrText.mono:∀ a0 a1 a2 a3 k,LeO (spec_AddrText.f k a0 a1 a2 a3) (spec_AddrText.f (k + 1) a0 a1 a2 a3):=by
 intro a0 a1 a2 a3 k
 unfold spec_AddrText.f
 repeat' first
   | (with_reducible apply spec_AddrOk.mono)
   | (with_reducible apply spec_l1Text.mono)
   | (with_reducible exact LeO.refl _)
   | (with_reducible exact LeO.none _)
   | (with_reducible refine LeO.ite ?_ ?_)
   | (with_reducible refine LeO.bind ?_ (fun _=>?_))





theorem spec_AddrText.calls (k:Nat) (a0_0:ByteArray) (A0_1:Option Addr) (c0_1:Nat) (l0_1:List ByteArray) (a0_2:Bool) (a0_3:ByteArray) (r:ByteArray) (w:World) (hr0_1:Kd.C Kd.string w A0_1 l0_1.length l0_1) (hc0_1:l0_1.length ≤ c0_1) (h:spec_AddrText.f k a0_0 l0_1 a0_2 a0_3 = some r) :
  Calls Tryd.prog 76 #[.agg #[.string a0_0, .slice A0_1 l0_1.length c0_1, .bool a0_2, .string a0_3]] w fun e w'=>e = .returned (.string r) ∧ Below w.heap.size w w':=by
 have hu25:=Tryd.underlying25
 have HR0_1:=Am hr0_1
 have HC0_1:=Am hc0_1
 clear hr0_1 hc0_1
 have HB:=Am (Below.refl w.heap.size w)
 have H:((spec_AddrOk.f k a0_0 l0_1 a0_2 a0_3).bind fun t225=>(if t225 = true then ((spec_l1Text.f k a0_0 l0_1 a0_2 a0_3).bind fun t226=>(some t226)) else (some (⟨#[]⟩:ByteArray)))) = some r:=h
 clear h
 replace H:=bI H
 obtain ⟨t225,A20,H⟩:=H
 replace H:(if t225 = true then ((spec_l1Text.f k a0_0 l0_1 a0_2 a0_3).bind fun t226=>(some t226)) else (some (⟨#[]⟩:ByteArray))) = some r:=H
 have A2:=Am A20
 clear A20
 by_cases c3:t225 = true
 ·subst c3
  have H1:((spec_l1Text.f k a0_0 l0_1 a0_2 a0_3).bind fun t226=>(some t226)) = some r:=by rw [if_pos rfl] at H;exact H
  clear H
  have H:=H1
  clear H1
  replace H:=bI H
  obtain ⟨t226,A40,H⟩:=H
  replace H:(some t226) = some r:=H
  have A4:=Am A40
  clear A40
  obtain rfl:=Option.some.inj H
  go_enter Tryd.func76,Tryd.ntmps76
  go_wp2_with (first|((with_reducible refine gate_dst (N:=1) rfl ?_);refine box_event ?hg (N:=1) ?hd (cs:=#[.string a0_0, .slice A0_1 l0_1.length c0_1, .bool a0_2, .string a0_3]) (t:=25) ?hr ?_;(case hd=>rfl);(case hg=>rfl);(case hr=>(go_simp <;> rfl));intro gb224 hg w5 hbox hb;have n0_:=Am (bT (by repeat (first|(with_reducible first|exact HB.out|apply bA|apply bN|apply bD)|exact HB.out)) hb);have n1_:=Am (hbox);have n2_:=Am ((by rw [hg];exact (bU (by repeat (first|(with_reducible first|exact HB.out|apply bA|apply bN|apply bD)|exact HB.out))):w.heap.size ≤ gb224));have n3_:=n2_;clear HB;have HB:=n0_;have BK224:=n1_;have GW224:=n2_;have GE224:=n3_;clear n0_ n1_ n2_ n3_ hb hbox hg;obtain ⟨hcz6_0,hcz6_1,hcz6_2,hcz6_3,hfz6_0,hfz6_1,hfz6_2,hfz6_3⟩:=bX BK224.out)|((with_reducible refine gate_callee (f:=15) rfl ?_);refine goesL_ (some 4) rfl rfl Tryd.func15 (by kernel_rfl) rfl #[.agg #[.string a0_0, .slice A0_1 l0_1.length c0_1, .bool a0_2, .string a0_3]] rfl (aE1 rfl) ?_;(with_reducible refine (spec_AddrOk.calls k a0_0 _ _ l0_1 a0_2 a0_3 true _ ?side1 ?side2 A2.out).mono ?_);(case side1=>repeat (first|exact (Kd.C_below HR0_1.out HB.out)|(with_reducible refine bC ?_)));(case side2=>exact HC0_1.out);rintro e w7 ⟨rfl,hb⟩;refine ⟨_,rfl,?_⟩;have n0_:=Am (blk_below (bB BK224.out) hb);have n1_:=Am (bT (by repeat (first|(with_reducible first|exact HB.out|apply bA|apply bN|apply bD|refine bS ?_ GE224.out)|exact HB.out)) hb);clear BK224 HB;have BK224:=n0_;have HB:=n1_;clear n0_ n1_;(try clear hb);obtain ⟨hcz8_0,hcz8_1,hcz8_2,hcz8_3,hfz8_0,hfz8_1,hfz8_2,hfz8_3⟩:=bX BK224.out)|((with_reducible refine gate_callee (f:=44) rfl ?_);refine goesL_ (some 7) rfl rfl Tryd.func44 (by kernel_rfl) rfl #[.agg #[.string a0_0, .slice A0_1 l0_1.length c0_1, .bool a0_2, .string a0_3]] rfl (aE1 rfl) ?_;(with_reducible refine (spec_l1Text.calls k a0_0 _ _ l0_1 a0_2 a0_3 t226 _ ?side1 ?side2 A4.out).mono ?_);(case side1=>repeat (first|exact (Kd.C_below HR0_1.out HB.out)|(with_reducible refine bC ?_)));(case side2=>exact HC0_1.out);rintro e w9 ⟨rfl,hb⟩;refine ⟨_,rfl,?_⟩;have n0_:=Am (blk_below (bB BK224.out) hb);have n1_:=Am (bT (by repeat (first|(with_reducible first|exact HB.out|apply bA|apply bN|apply bD|refine bS ?_ GE224.out)|exact HB.out)) hb);clear BK224 HB;have BK224:=n0_;have HB:=n1_;clear n0_ n1_;(try clear hb)))
  go_ret
  exact ⟨by first|rfl|(simp <;> rfl)|(simp [*] <;> rfl),by repeat (first|(with_reducible first|exact HB.out|apply bA|apply bN|apply bD|refine bS ?_ GE224.out)|exact HB.out)⟩
 ·replace c3:=Bool.eq_false_iff.mpr c3
  subst c3
  have H1:(some (⟨#[]⟩:ByteArray)) = some r:=by rw [if_neg (show ¬ (false = true) by decide)] at H;exact H
  clear H
  have H:=H1
  clear H1
  obtain rfl:=Option.some.inj H
  go_enter Tryd.func76,Tryd.ntmps76
  go_wp2_with (first|((with_reducible refine gate_dst (N:=1) rfl ?_);refine box_event ?hg (N:=1) ?hd (cs:=#[.string a0_0, .slice A0_1 l0_1.length c0_1, .bool a0_2, .string a0_3]) (t:=25) ?hr ?_;(case hd=>rfl);(case hg=>rfl);(case hr=>(go_simp <;> rfl));intro gb224 hg w10 hbox hb;have n0_:=Am (bT (by repeat (first|(with_reducible first|exact HB.out|apply bA|apply bN|apply bD)|exact HB.out)) hb);have n1_:=Am (hbox);have n2_:=Am ((by rw [hg];exact (bU (by repeat (first|(with_reducible first|exact HB.out|apply bA|apply bN|apply bD)|exact HB.out))):w.heap.size ≤ gb224));have n3_:=n2_;clear HB;have HB:=n0_;have BK224:=n1_;have GW224:=n2_;have GE224:=n3_;clear n0_ n1_ n2_ n3_ hb hbox hg;obtain ⟨hcz11_0,hcz11_1,hcz11_2,hcz11_3,hfz11_0,hfz11_1,hfz11_2,hfz11_3⟩:=bX BK224.out)|((with_reducible refine gate_callee (f:=15) rfl ?_);refine goesL_ (some 4) rfl rfl Tryd.func15 (by kernel_rfl) rfl #[.agg #[.string a0_0, .slice A0_1 l0_1.length c0_1, .bool a0_2, .string a0_3]] rfl (aE1 rfl) ?_;(with_reducible refine (spec_AddrOk.calls k a0_0 _ _ l0_1 a0_2 a0_3 false _ ?side1 ?side2 A2.out).mono ?_);(case side1=>repeat (first|exact (Kd.C_below HR0_1.out HB.out)|(with_reducible refine bC ?_)));(case side2=>exact HC0_1.out);rintro e w12 ⟨rfl,hb⟩;refine ⟨_,rfl,?_⟩;have n0_:=Am (blk_below (bB BK224.out) hb);have n1_:=Am (bT (by repeat (first|(with_reducible first|exact HB.out|apply bA|apply bN|apply bD|refine bS ?_ GE224.out)|exact HB.out)) hb);clear BK224 HB;have BK224:=n0_;have HB:=n1_;clear n0_ n1_;(try clear hb)))
  go_ret
  exact ⟨by first|rfl|(simp <;> rfl)|(simp [*] <;> rfl),by repeat (first|(with_reducible first|exact HB.out|apply bA|apply bN|apply bD|refine bS ?_ GE224.out)|exact HB.out)⟩

end Go.Proofs.YtbnnamjaljohiaaDoor.P
