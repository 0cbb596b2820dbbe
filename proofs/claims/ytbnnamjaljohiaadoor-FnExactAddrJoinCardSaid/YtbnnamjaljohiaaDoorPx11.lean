-- Written by a program of this session (patch_print.py over the kit's print; given texts in wip/given).
-- Cut down by a program of this session (wip/tools/prune.py) to what its claim can name.
import Derived.Test.YtbnnamjaljohiaaDoorSq
import Derived.Test.YtbnnamjaljohiaaDoorPx0
import Derived.Test.YtbnnamjaljohiaaDoorPx7
import Derived.Test.YtbnnamjaljohiaaDoorPx10
namespace Go.Proofs.YtbnnamjaljohiaaDoor.P
open Go.RowKit Go.Proofs.YtbnnamjaljohiaaDoorW.PrintWords Go.Proofs.YtbnnamjaljohiaaDoorW.PrintLast Go.Proofs.YtbnnamjaljohiaaDoorW.PrintMore
attribute [local go_sem] max2_int min2_int max_two min_two max_three min_three max_four min_four   -- for this text's walks alone
set_option linter.unusedVariables false
set_option linter.unusedSimpArgs false
set_option maxHeartbeats 8000000
set_option maxRecDepth 100000

/-! ### laws_FnExactAddrJoin: function 5 -/
mutual
def laws_FnExactAddrJoin.j0:Nat → ByteArray → Bool → Bool → Bool → ByteArray → List ByteArray → Bool → ByteArray → ByteArray → List ByteArray → Bool → ByteArray → ByteArray → List ByteArray → Bool → ByteArray → ByteArray → List ByteArray → Bool → ByteArray → Option (Bool)
 | 0,_,_,_,_,_,_,_,_,_,_,_,_,_,_,_,_,_,_,_,_=>none
 | k + 1,x1,x7,x10,x47,x607000,x607001,x607002,x607003,x622000,x622001,x622002,x622003,x629000,x629001,x629002,x629003,x637000,x637001,x637002,x637003=>if x47 = true then (some false) else ((laws_toAddr.f k x607000 x607001 x607002 x607003).bind fun bt638=>((laws_eqAddr.f k x629000 x629001 x629002 x629003 bt638.1 bt638.2.1 bt638.2.2.1 bt638.2.2.2).bind fun t644=>(if t644 = true then ((laws_markAddr.f k x629000 x629001 x629002 x629003 1).bind fun bt645=>(if bt645.1 < 0 then (laws_FnExactAddrJoin.j1 k x1 x7 true x607000 x607001 x607002 x607003 x622000 x622001 x622002 x622003 x637000 x637001 x637002 x637003) else ((laws_eqAddr.f k x637000 x637001 x637002 x637003 x622000 x622001 x622002 x622003).bind fun t647=>(if t647 = true then (laws_FnExactAddrJoin.j1 k x1 x7 (x10 != x7) x607000 x607001 x607002 x607003 x622000 x622001 x622002 x622003 x637000 x637001 x637002 x637003) else (laws_FnExactAddrJoin.j1 k x1 x7 true x607000 x607001 x607002 x607003 x622000 x622001 x622002 x622003 x637000 x637001 x637002 x637003))))) else (some false))))
def laws_FnExactAddrJoin.j1:Nat → ByteArray → Bool → Bool → ByteArray → List ByteArray → Bool → ByteArray → ByteArray → List ByteArray → Bool → ByteArray → ByteArray → List ByteArray → Bool → ByteArray → Option (Bool)
 | 0,_,_,_,_,_,_,_,_,_,_,_,_,_,_,_=>none
 | k + 1,x1,x7,x68,x607000,x607001,x607002,x607003,x622000,x622001,x622002,x622003,x637000,x637001,x637002,x637003=>if x68 = true then (some false) else ((laws_markAddr.f k x637000 x637001 x637002 x637003 1).bind fun bt648=>((laws_heldAddr.f k x637000 bt648.2 x637002 x637003 1).bind fun t650=>(if t650 < 0 then (some false) else (if t650 = bt648.1 then ((laws_toAddr.f k x607000 x607001 x607002 x607003).bind fun bt651=>((impl_AddrJoin.f k bt651.1 bt651.2.1 bt651.2.2.1 bt651.2.2.2 x1).bind fun bt657=>((laws_eqAddr.f k bt657.1 bt657.2.1 bt657.2.2.1 bt657.2.2.2.1 x622000 x622001 x622002 x622003).bind fun t665=>(if t665 = true then (laws_FnExactAddrJoin.j2 k bt648.1 (bt657.2.2.2.2 != x7) x637000 bt648.2 x637002 x637003) else (laws_FnExactAddrJoin.j2 k bt648.1 true x637000 bt648.2 x637002 x637003))))) else (some false)))))
def laws_FnExactAddrJoin.j2:Nat → Int → Bool → ByteArray → List ByteArray → Bool → ByteArray → Option (Bool)
 | 0,_,_,_,_,_,_=>none
 | k + 1,x12,x95,x637000,x637001,x637002,x637003=>if x95 = true then (some false) else ((laws_heldAddr.f k x637000 x637001 x637002 x637003 1).bind fun t666=>(if t666 < 0 then (some false) else (if t666 = x12 then (some true) else (some false))))
end
def laws_FnExactAddrJoin.f (k:Nat) (a0_0:ByteArray) (l0_1:List ByteArray) (a0_2:Bool) (a0_3:ByteArray) (a1:ByteArray):Option (Bool):=if (a1.size:Int) > 1048576 then (some true) else ((laws_szAddr.f k a0_0 l0_1 a0_2 a0_3 1048576).bind fun t607=>(if t607 < 0 then (some true) else ((laws_toAddr.f k a0_0 l0_1 a0_2 a0_3).bind fun bt608=>((spec_AddrJoin.f k bt608.1 bt608.2.1 bt608.2.2.1 bt608.2.2.2 a1).bind fun bt614=>((laws_toAddr.f k a0_0 l0_1 a0_2 a0_3).bind fun bt622=>((impl_AddrJoin.f k bt622.1 bt622.2.1 bt622.2.2.1 bt622.2.2.2 a1).bind fun bt629=>((laws_eqAddr.f k bt629.1 bt629.2.1 bt629.2.2.1 bt629.2.2.2.1 bt614.1 bt614.2.1 bt614.2.2.1 bt614.2.2.2.1).bind fun t637=>(if t637 = true then (laws_FnExactAddrJoin.j0 k a1 bt614.2.2.2.2 bt629.2.2.2.2 (bt629.2.2.2.2 != bt614.2.2.2.2) a0_0 l0_1 a0_2 a0_3 bt614.1 bt614.2.1 bt614.2.2.1 bt614.2.2.2.1 bt622.1 bt622.2.1 bt622.2.2.1 bt622.2.2.2 bt629.1 bt629.2.1 bt629.2.2.1 bt629.2.2.2.1) else (laws_FnExactAddrJoin.j0 k a1 bt614.2.2.2.2 bt629.2.2.2.2 true a0_0 l0_1 a0_2 a0_3 bt614.1 bt614.2.1 bt614.2.2.1 bt614.2.2.2.1 bt622.1 bt622.2.1 bt622.2.2.1 bt622.2.2.2 bt629.1 bt629.2.1 bt629.2.2.1 bt629.2.2.2.1)))))))))
theorem laws_FnExactAddrJoin.mono_l:∀ k,(∀ y0 y1 y2 y3 y4 y5 y6 y7 y8 y9 y10 y11 y12 y13 y14 y15 y16 y17 y18 y19,LeO (laws_FnExactAddrJoin.j0 k y0 y1 y2 y3 y4 y5 y6 y7 y8 y9 y10 y11 y12 y13 y14 y15 y16 y17 y18 y19) (laws_FnExactAddrJoin.j0 (k + 1) y0 y1 y2 y3 y4 y5 y6 y7 y8 y9 y10 y11 y12 y13 y14 y15 y16 y17 y18 y19)) ∧ (∀ y0 y1 y2 y3 y4 y5 y6 y7 y8 y9 y10 y11 y12 y13 y14,LeO (laws_FnExactAddrJoin.j1 k y0 y1 y2 y3 y4 y5 y6 y7 y8 y9 y10 y11 y12 y13 y14) (laws_FnExactAddrJoin.j1 (k + 1) y0 y1 y2 y3 y4 y5 y6 y7 y8 y9 y10 y11 y12 y13 y14)) ∧ (∀ y0 y1 y2 y3 y4 y5,LeO (laws_FnExactAddrJoin.j2 k y0 y1 y2 y3 y4 y5) (laws_FnExactAddrJoin.j2 (k + 1) y0 y1 y2 y3 y4 y5))
 | 0=>⟨fun _ _ _ _ _ _ _ _ _ _ _ _ _ _ _ _ _ _ _ _ r h=>by simp [laws_FnExactAddrJoin.j0] at h,fun _ _ _ _ _ _ _ _ _ _ _ _ _ _ _ r h=>by simp [laws_FnExactAddrJoin.j1] at h,fun _ _ _ _ _ _ r h=>by simp [laws_FnExactAddrJoin.j2] at h⟩
 | k + 1=>by
  obtain ⟨ih0,ih1,ih2⟩:=laws_FnExactAddrJoin.mono_l k
  refine ⟨?_,?_,?_⟩
  ·intro y0 y1 y2 y3 y4 y5 y6 y7 y8 y9 y10 y11 y12 y13 y14 y15 y16 y17 y18 y19
   unfold laws_FnExactAddrJoin.j0
   repeat' first
   | (with_reducible apply ih0)
   | (with_reducible apply ih1)
   | (with_reducible apply ih2)
   | (with_reducible apply impl_AddrJoin.mono)
   | (with_reducible apply laws_eqAddr.mono)
   | (with_reducible apply laws_heldAddr.mono)
   | (with_reducible apply laws_markAddr.mono)
   | (with_reducible apply laws_szAddr.mono)
   | (with_reducible apply laws_toAddr.mono)
   | (with_reducible apply spec_AddrJoin.mono)
   | (with_reducible exact LeO.refl _)
   | (with_reducible exact LeO.none _)
   | (with_reducible refine LeO.ite ?_ ?_)
   | (with_reducible refine LeO.bind ?_ (fun _=>?_))
   | exact ih0 _ _ _ _ _ _ _ _ _ _ _ _ _ _ _ _ _ _ _ _
   | exact ih1 _ _ _ _ _ _ _ _ _ _ _ _ _ _ _
   | exact ih2 _ _ _ _ _ _
   | exact impl_AddrJoin.mono _ _ _ _ _ _
   | exact laws_eqAddr.mono _ _ _ _ _ _ _ _ _
   | exact laws_heldAddr.mono _ _ _ _ _ _
   | exact laws_markAddr.mono _ _ _ _ _ _
   | exact laws_szAddr.mono _ _ _ _ _ _
   | exact laws_toAddr.mono _ _ _ _ _
   | exact spec_AddrJoin.mono _ _ _ _ _ _
   | exact LeO.none _
   | refine LeO.ite ?_ ?_
   | refine LeO.bind ?_ (fun _=>?_)
  ·intro y0 y1 y2 y3 y4 y5 y6 y7 y8 y9 y10 y11 y12 y13 y14
   unfold laws_FnExactAddrJoin.j1
   repeat' first
   | (with_reducible apply ih0)
   | (with_reducible apply ih1)
   | (with_reducible apply ih2)
   | (with_reducible apply impl_AddrJoin.mono)
   | (with_reducible apply laws_eqAddr.mono)
   | (with_reducible apply laws_heldAddr.mono)
   | (with_reducible apply laws_markAddr.mono)
   | (with_reducible apply laws_szAddr.mono)
   | (with_reducible apply laws_toAddr.mono)
   | (with_reducible apply spec_AddrJoin.mono)
   | (with_reducible exact LeO.refl _)
   | (with_reducible exact LeO.none _)
   | (with_reducible refine LeO.ite ?_ ?_)
   | (with_reducible refine LeO.bind ?_ (fun _=>?_))
   | exact ih0 _ _ _ _ _ _ _ _ _ _ _ _ _ _ _ _ _ _ _ _
   | exact ih1 _ _ _ _ _ _ _ _ _ _ _ _ _ _ _
   | exact ih2 _ _ _ _ _ _
   | exact impl_AddrJoin.mono _ _ _ _ _ _
   | exact laws_eqAddr.mono _ _ _ _ _ _ _ _ _
   | exact laws_heldAddr.mono _ _ _ _ _ _
   | exact laws_markAddr.mono _ _ _ _ _ _
   | exact laws_szAddr.mono _ _ _ _ _ _
   | exact laws_toAddr.mono _ _ _ _ _
   | exact spec_AddrJoin.mono _ _ _ _ _ _
   | exact LeO.none _
   | refine LeO.ite ?_ ?_
   | refine LeO.bind ?_ (fun _=>?_)
  ·intro y0 y1 y2 y3 y4 y5
   unfold laws_FnExactAddrJoin.j2
   repeat' first
   | (with_reducible apply ih0)
   | (with_reducible apply ih1)
   | (with_reducible apply ih2)
   | (with_reducible apply impl_AddrJoin.mono)
   | (with_reducible apply laws_eqAddr.mono)
   | (with_reducible apply laws_heldAddr.mono)
   | (with_reducible apply laws_markAddr.mono)
   | (with_reducible apply laws_szAddr.mono)
   | (with_reducible apply laws_toAddr.mono)
   | (with_reducible apply spec_AddrJoin.mono)
   | (with_reducible exact LeO.refl _)
   | (with_reducible exact LeO.none _)
   | (with_reducible refine LeO.ite ?_ ?_)
   | (with_reducible refine LeO.bind ?_ (fun _=>?_))
   | exact ih0 _ _ _ _ _ _ _ _ _ _ _ _ _ _ _ _ _ _ _ _
   | exact ih1 _ _ _ _ _ _ _ _ _ _ _ _ _ _ _
   | exact ih2 _ _ _ _ _ _
   | exact impl_AddrJoin.mono _ _ _ _ _ _
   | exact laws_eqAddr.mono _ _ _ _ _ _ _ _ _
   | exact laws_heldAddr.mono _ _ _ _ _ _
   | exact laws_markAddr.mono _ _ _ _ _ _
   | exact laws_szAddr.mono _ _ _ _ _ _
   | exact laws_toAddr.mono _ _ _ _ _
   | exact spec_AddrJoin.mono _ _ _ _ _ _
   | exact LeO.none _
   | refine LeO.ite ?_ ?_
   | refine LeO.bind ?_ (fun _=>?_)
theorem laws_FnExactAddrJoin.mono:∀ a0 a1 a2 a3 a4 k,LeO (laws_FnExactAddrJoin.f k a0 a1 a2 a3 a4) (laws_FnExactAddrJoin.f (k + 1) a0 a1 a2 a3 a4):=by
 intro a0 a1 a2 a3 a4 k
 obtain ⟨ih0,ih1,ih2⟩:=laws_FnExactAddrJoin.mono_l k
 unfold laws_FnExactAddrJoin.f
 repeat' first
   | (with_reducible apply ih0)
   | (with_reducible apply ih1)
   | (with_reducible apply ih2)
   | (with_reducible apply impl_AddrJoin.mono)
   | (with_reducible apply laws_eqAddr.mono)
   | (with_reducible apply laws_heldAddr.mono)
   | (with_reducible apply laws_markAddr.mono)
   | (with_reducible apply laws_szAddr.mono)
   | (with_reducible apply laws_toAddr.mono)
   | (with_reducible apply spec_AddrJoin.mono)
   | (with_reducible exact LeO.refl _)
   | (with_reducible exact LeO.none _)
   | (with_reducible refine LeO.ite ?_ ?_)
   | (with_reducible refine LeO.bind ?_ (fun _=>?_))
   | exact ih0 _ _ _ _ _ _ _ _ _ _ _ _ _ _ _ _ _ _ _ _
   | exact ih1 _ _ _ _ _ _ _ _ _ _ _ _ _ _ _
   | exact ih2 _ _ _ _ _ _
   | exact impl_AddrJoin.mono _ _ _ _ _ _
   | exact laws_eqAddr.mono _ _ _ _ _ _ _ _ _
   | exact laws_heldAddr.mono _ _ _ _ _ _
   | exact laws_markAddr.mono _ _ _ _ _ _
   | exact laws_szAddr.mono _ _ _ _ _ _
   | exact laws_toAddr.mono _ _ _ _ _
   | exact spec_AddrJoin.mono _ _ _ _ _ _
   | exact LeO.none _
   | refine LeO.ite ?_ ?_
   | refine LeO.bind ?_ (fun _=>?_)
theorem laws_FnExactAddrJoin.calls (k:Nat) (a0_0:ByteArray) (A0_1:Option Addr) (c0_1:Nat) (l0_1:List ByteArray) (a0_2:Bool) (a0_3:ByteArray) (a1:ByteArray) (r:Bool) (w:World) (hr0_1:Kd.C Kd.string w A0_1 l0_1.length l0_1) (hc0_1:l0_1.length ≤ c0_1) (h:laws_FnExactAddrJoin.f k a0_0 l0_1 a0_2 a0_3 a1 = some r) :
  Calls Tryd.prog 5 #[.agg #[.string a0_0, .slice A0_1 l0_1.length c0_1, .bool a0_2, .string a0_3], .string a1] w fun e w'=>e = .returned (.bool r) ∧ Below w.heap.size w w':=by
 have hu36:=Tryd.underlying36
 have hu25:=Tryd.underlying25
 have HR0_1:=Am hr0_1
 have HC0_1:=Am hc0_1
 clear hr0_1 hc0_1
 have HB:=Am (Below.refl w.heap.size w)
 have H:(if (a1.size:Int) > 1048576 then (some true) else ((laws_szAddr.f k a0_0 l0_1 a0_2 a0_3 1048576).bind fun t607=>(if t607 < 0 then (some true) else ((laws_toAddr.f k a0_0 l0_1 a0_2 a0_3).bind fun bt608=>((spec_AddrJoin.f k bt608.1 bt608.2.1 bt608.2.2.1 bt608.2.2.2 a1).bind fun bt614=>((laws_toAddr.f k a0_0 l0_1 a0_2 a0_3).bind fun bt622=>((impl_AddrJoin.f k bt622.1 bt622.2.1 bt622.2.2.1 bt622.2.2.2 a1).bind fun bt629=>((laws_eqAddr.f k bt629.1 bt629.2.1 bt629.2.2.1 bt629.2.2.2.1 bt614.1 bt614.2.1 bt614.2.2.1 bt614.2.2.2.1).bind fun t637=>(if t637 = true then (laws_FnExactAddrJoin.j0 k a1 bt614.2.2.2.2 bt629.2.2.2.2 (bt629.2.2.2.2 != bt614.2.2.2.2) a0_0 l0_1 a0_2 a0_3 bt614.1 bt614.2.1 bt614.2.2.1 bt614.2.2.2.1 bt622.1 bt622.2.1 bt622.2.2.1 bt622.2.2.2 bt629.1 bt629.2.1 bt629.2.2.1 bt629.2.2.2.1) else (laws_FnExactAddrJoin.j0 k a1 bt614.2.2.2.2 bt629.2.2.2.2 true a0_0 l0_1 a0_2 a0_3 bt614.1 bt614.2.1 bt614.2.2.1 bt614.2.2.2.1 bt622.1 bt622.2.1 bt622.2.2.1 bt622.2.2.2 bt629.1 bt629.2.1 bt629.2.2.1 bt629.2.2.2.1)))))))))) = some r:=h
 clear h
 by_cases c3:(a1.size:Int) > 1048576
 ·rw [if_pos c3] at H
  have c3b0:decide (1048576 < (a1.size:Int)) = true:=decide_eq_true c3
  have c3b1:decide (1048576 < a1.size) = true:=decide_eq_true (by omega)
  clear c3
  obtain rfl:=Option.some.inj H
  go_enter Tryd.func5,Tryd.ntmps5
  go_wp2_with (first|((with_reducible refine gate_dst (N:=2) rfl ?_);refine box_event ?hg (N:=2) ?hd (cs:=#[.string a0_0, .slice A0_1 l0_1.length c0_1, .bool a0_2, .string a0_3]) (t:=36) ?hr ?_;(case hd=>rfl);(case hg=>rfl);(case hr=>(go_simp <;> rfl));intro gb606 hg w4 hbox hb;have n0_:=Am (bT (by repeat (first|(with_reducible first|exact HB.out|apply bA|apply bN|apply bD)|exact HB.out)) hb);have n1_:=Am (hbox);have n2_:=Am ((by rw [hg];exact (bU (by repeat (first|(with_reducible first|exact HB.out|apply bA|apply bN|apply bD)|exact HB.out))):w.heap.size ≤ gb606));have n3_:=n2_;clear HB;have HB:=n0_;have BK606:=n1_;have GW606:=n2_;have GE606:=n3_;clear n0_ n1_ n2_ n3_ hb hbox hg))
  go_ret
  exact ⟨by first|rfl|(simp <;> rfl)|(simp [*] <;> rfl),by repeat (first|(with_reducible first|exact HB.out|apply bA|apply bN|apply bD|refine bS ?_ GE606.out)|exact HB.out)⟩
 ·rw [if_neg c3] at H
  have c3b0:decide (1048576 < (a1.size:Int)) = false:=decide_eq_false c3
  have c3b1:decide (1048576 < a1.size) = false:=decide_eq_false (by omega)
  clear c3
  replace H:=bI H
  obtain ⟨t607,A50,H⟩:=H
  replace H:(if t607 < 0 then (some true) else ((laws_toAddr.f k a0_0 l0_1 a0_2 a0_3).bind fun bt608=>((spec_AddrJoin.f k bt608.1 bt608.2.1 bt608.2.2.1 bt608.2.2.2 a1).bind fun bt614=>((laws_toAddr.f k a0_0 l0_1 a0_2 a0_3).bind fun bt622=>((impl_AddrJoin.f k bt622.1 bt622.2.1 bt622.2.2.1 bt622.2.2.2 a1).bind fun bt629=>((laws_eqAddr.f k bt629.1 bt629.2.1 bt629.2.2.1 bt629.2.2.2.1 bt614.1 bt614.2.1 bt614.2.2.1 bt614.2.2.2.1).bind fun t637=>(if t637 = true then (laws_FnExactAddrJoin.j0 k a1 bt614.2.2.2.2 bt629.2.2.2.2 (bt629.2.2.2.2 != bt614.2.2.2.2) a0_0 l0_1 a0_2 a0_3 bt614.1 bt614.2.1 bt614.2.2.1 bt614.2.2.2.1 bt622.1 bt622.2.1 bt622.2.2.1 bt622.2.2.2 bt629.1 bt629.2.1 bt629.2.2.1 bt629.2.2.2.1) else (laws_FnExactAddrJoin.j0 k a1 bt614.2.2.2.2 bt629.2.2.2.2 true a0_0 l0_1 a0_2 a0_3 bt614.1 bt614.2.1 bt614.2.2.1 bt614.2.2.2.1 bt622.1 bt622.2.1 bt622.2.2.1 bt622.2.2.2 bt629.1 bt629.2.1 bt629.2.2.1 bt629.2.2.2.1)))))))) = some r:=H
  have A5:=Am A50
  clear A50
  by_cases c6:t607 < 0
  ·rw [if_pos c6] at H
   have c6b0:decide (t607 < 0) = true:=decide_eq_true c6
   clear c6
   obtain rfl:=Option.some.inj H
   go_enter Tryd.func5,Tryd.ntmps5
   go_wp2_with (first|((with_reducible refine gate_dst (N:=2) rfl ?_);refine box_event ?hg (N:=2) ?hd (cs:=#[.string a0_0, .slice A0_1 l0_1.length c0_1, .bool a0_2, .string a0_3]) (t:=36) ?hr ?_;(case hd=>rfl);(case hg=>rfl);(case hr=>(go_simp <;> rfl));intro gb606 hg w7 hbox hb;have n0_:=Am (bT (by repeat (first|(with_reducible first|exact HB.out|apply bA|apply bN|apply bD)|exact HB.out)) hb);have n1_:=Am (hbox);have n2_:=Am ((by rw [hg];exact (bU (by repeat (first|(with_reducible first|exact HB.out|apply bA|apply bN|apply bD)|exact HB.out))):w.heap.size ≤ gb606));have n3_:=n2_;clear HB;have HB:=n0_;have BK606:=n1_;have GW606:=n2_;have GE606:=n3_;clear n0_ n1_ n2_ n3_ hb hbox hg;have hcz8_0:w7.cell? ⟨gb606,0,none⟩ = some (.string a0_0):=bM BK606.out 0 rfl;have hcz8_1:w7.cell? ⟨gb606,1,none⟩ = some (.slice A0_1 l0_1.length c0_1):=bM BK606.out 1 rfl;have hcz8_2:w7.cell? ⟨gb606,2,none⟩ = some (.bool a0_2):=bM BK606.out 2 rfl;have hcz8_3:w7.cell? ⟨gb606,3,none⟩ = some (.string a0_3):=bM BK606.out 3 rfl;have hfz8_0:=bZ BK606.out 0;have hfz8_1:=bZ BK606.out 1;have hfz8_2:=bZ BK606.out 2;have hfz8_3:=bZ BK606.out 3)|((with_reducible refine gate_callee (f:=19) rfl ?_);refine goesL_ (some 21) rfl rfl Tryd.func19 (by kernel_rfl) rfl #[.agg #[.string a0_0, .slice A0_1 l0_1.length c0_1, .bool a0_2, .string a0_3], .int .i64 1048576] rfl (aE2 rfl rfl) ?_;(with_reducible refine (laws_szAddr.calls k a0_0 _ _ l0_1 a0_2 a0_3 1048576 t607 _ ?side1 ?side2 A5.out).mono ?_);(case side1=>repeat (first|exact (Kd.C_below HR0_1.out HB.out)|(with_reducible refine bC ?_)));(case side2=>exact HC0_1.out);rintro e w9 ⟨rfl,hb⟩;refine ⟨_,rfl,?_⟩;have n0_:=Am (blk_below (bB BK606.out) hb);have n1_:=Am (bT (by repeat (first|(with_reducible first|exact HB.out|apply bA|apply bN|apply bD|refine bS ?_ GE606.out)|exact HB.out)) hb);clear BK606 HB;have BK606:=n0_;have HB:=n1_;clear n0_ n1_;(try clear hb)))
   go_ret
   exact ⟨by first|rfl|(simp <;> rfl)|(simp [*] <;> rfl),by repeat (first|(with_reducible first|exact HB.out|apply bA|apply bN|apply bD|refine bS ?_ GE606.out)|exact HB.out)⟩
  ·rw [if_neg c6] at H
   have c6b0:decide (t607 < 0) = false:=decide_eq_false c6
   clear c6
   replace H:=bI H
   obtain ⟨⟨t608,t609,t612,t613⟩,A100,H⟩:=H
   replace H:((spec_AddrJoin.f k t608 t609 t612 t613 a1).bind fun bt614=>((laws_toAddr.f k a0_0 l0_1 a0_2 a0_3).bind fun bt622=>((impl_AddrJoin.f k bt622.1 bt622.2.1 bt622.2.2.1 bt622.2.2.2 a1).bind fun bt629=>((laws_eqAddr.f k bt629.1 bt629.2.1 bt629.2.2.1 bt629.2.2.2.1 bt614.1 bt614.2.1 bt614.2.2.1 bt614.2.2.2.1).bind fun t637=>(if t637 = true then (laws_FnExactAddrJoin.j0 k a1 bt614.2.2.2.2 bt629.2.2.2.2 (bt629.2.2.2.2 != bt614.2.2.2.2) a0_0 l0_1 a0_2 a0_3 bt614.1 bt614.2.1 bt614.2.2.1 bt614.2.2.2.1 bt622.1 bt622.2.1 bt622.2.2.1 bt622.2.2.2 bt629.1 bt629.2.1 bt629.2.2.1 bt629.2.2.2.1) else (laws_FnExactAddrJoin.j0 k a1 bt614.2.2.2.2 bt629.2.2.2.2 true a0_0 l0_1 a0_2 a0_3 bt614.1 bt614.2.1 bt614.2.2.1 bt614.2.2.2.1 bt622.1 bt622.2.1 bt622.2.2.1 bt622.2.2.2 bt629.1 bt629.2.1 bt629.2.2.1 bt629.2.2.2.1)))))) = some r:=H
   have A10:=Am A100
   clear A100
   replace H:=bI H
   obtain ⟨⟨t614,t615,t618,t619,t620⟩,A110,H⟩:=H
   replace H:((laws_toAddr.f k a0_0 l0_1 a0_2 a0_3).bind fun bt622=>((impl_AddrJoin.f k bt622.1 bt622.2.1 bt622.2.2.1 bt622.2.2.2 a1).bind fun bt629=>((laws_eqAddr.f k bt629.1 bt629.2.1 bt629.2.2.1 bt629.2.2.2.1 t614 t615 t618 t619).bind fun t637=>(if t637 = true then (laws_FnExactAddrJoin.j0 k a1 t620 bt629.2.2.2.2 (bt629.2.2.2.2 != t620) a0_0 l0_1 a0_2 a0_3 t614 t615 t618 t619 bt622.1 bt622.2.1 bt622.2.2.1 bt622.2.2.2 bt629.1 bt629.2.1 bt629.2.2.1 bt629.2.2.2.1) else (laws_FnExactAddrJoin.j0 k a1 t620 bt629.2.2.2.2 true a0_0 l0_1 a0_2 a0_3 t614 t615 t618 t619 bt622.1 bt622.2.1 bt622.2.2.1 bt622.2.2.2 bt629.1 bt629.2.1 bt629.2.2.1 bt629.2.2.2.1))))) = some r:=H
   have A11:=Am A110
   clear A110
   replace H:=bI H
   obtain ⟨⟨t622,t623,t626,t627⟩,A120,H⟩:=H
   replace H:((impl_AddrJoin.f k t622 t623 t626 t627 a1).bind fun bt629=>((laws_eqAddr.f k bt629.1 bt629.2.1 bt629.2.2.1 bt629.2.2.2.1 t614 t615 t618 t619).bind fun t637=>(if t637 = true then (laws_FnExactAddrJoin.j0 k a1 t620 bt629.2.2.2.2 (bt629.2.2.2.2 != t620) a0_0 l0_1 a0_2 a0_3 t614 t615 t618 t619 t622 t623 t626 t627 bt629.1 bt629.2.1 bt629.2.2.1 bt629.2.2.2.1) else (laws_FnExactAddrJoin.j0 k a1 t620 bt629.2.2.2.2 true a0_0 l0_1 a0_2 a0_3 t614 t615 t618 t619 t622 t623 t626 t627 bt629.1 bt629.2.1 bt629.2.2.1 bt629.2.2.2.1)))) = some r:=H
   have A12:=Am A120
   clear A120
   replace H:=bI H
   obtain ⟨⟨t629,t630,t633,t634,t635⟩,A130,H⟩:=H
   replace H:((laws_eqAddr.f k t629 t630 t633 t634 t614 t615 t618 t619).bind fun t637=>(if t637 = true then (laws_FnExactAddrJoin.j0 k a1 t620 t635 (t635 != t620) a0_0 l0_1 a0_2 a0_3 t614 t615 t618 t619 t622 t623 t626 t627 t629 t630 t633 t634) else (laws_FnExactAddrJoin.j0 k a1 t620 t635 true a0_0 l0_1 a0_2 a0_3 t614 t615 t618 t619 t622 t623 t626 t627 t629 t630 t633 t634))) = some r:=H
   have A13:=Am A130
   clear A130
   have HC14:=Am H
   clear H
   go_enter Tryd.func5,Tryd.ntmps5
   go_upto_region 10 with (first|((with_reducible refine gate_dst (N:=2) rfl ?_);refine box_event ?hg (N:=2) ?hd (cs:=#[.string a0_0, .slice A0_1 l0_1.length c0_1, .bool a0_2, .string a0_3]) (t:=36) ?hr ?_;(case hd=>rfl);(case hg=>rfl);(case hr=>(go_simp <;> rfl));intro gb606 hg w15 hbox hb;have n0_:=Am (bT (by repeat (first|(with_reducible first|exact HB.out|apply bA|apply bN|apply bD)|exact HB.out)) hb);have n1_:=Am (hbox);have n2_:=Am ((by rw [hg];exact (bU (by repeat (first|(with_reducible first|exact HB.out|apply bA|apply bN|apply bD)|exact HB.out))):w.heap.size ≤ gb606));have n3_:=n2_;clear HB;have HB:=n0_;have BK606:=n1_;have GW606:=n2_;have GE606:=n3_;clear n0_ n1_ n2_ n3_ hb hbox hg;have hcz16_0:w15.cell? ⟨gb606,0,none⟩ = some (.string a0_0):=bM BK606.out 0 rfl;have hcz16_1:w15.cell? ⟨gb606,1,none⟩ = some (.slice A0_1 l0_1.length c0_1):=bM BK606.out 1 rfl;have hcz16_2:w15.cell? ⟨gb606,2,none⟩ = some (.bool a0_2):=bM BK606.out 2 rfl;have hcz16_3:w15.cell? ⟨gb606,3,none⟩ = some (.string a0_3):=bM BK606.out 3 rfl;have hfz16_0:=bZ BK606.out 0;have hfz16_1:=bZ BK606.out 1;have hfz16_2:=bZ BK606.out 2;have hfz16_3:=bZ BK606.out 3)|((with_reducible refine gate_callee (f:=19) rfl ?_);refine goesL_ (some 21) rfl rfl Tryd.func19 (by kernel_rfl) rfl #[.agg #[.string a0_0, .slice A0_1 l0_1.length c0_1, .bool a0_2, .string a0_3], .int .i64 1048576] rfl (aE2 rfl rfl) ?_;(with_reducible refine (laws_szAddr.calls k a0_0 _ _ l0_1 a0_2 a0_3 1048576 t607 _ ?side1 ?side2 A5.out).mono ?_);(case side1=>repeat (first|exact (Kd.C_below HR0_1.out HB.out)|(with_reducible refine bC ?_)));(case side2=>exact HC0_1.out);rintro e w17 ⟨rfl,hb⟩;refine ⟨_,rfl,?_⟩;have n0_:=Am (blk_below (bB BK606.out) hb);have n1_:=Am (bT (by repeat (first|(with_reducible first|exact HB.out|apply bA|apply bN|apply bD|refine bS ?_ GE606.out)|exact HB.out)) hb);clear BK606 HB;have BK606:=n0_;have HB:=n1_;clear n0_ n1_;(try clear hb);have hcz18_0:w17.cell? ⟨gb606,0,none⟩ = some (.string a0_0):=bM BK606.out 0 rfl;have hcz18_1:w17.cell? ⟨gb606,1,none⟩ = some (.slice A0_1 l0_1.length c0_1):=bM BK606.out 1 rfl;have hcz18_2:w17.cell? ⟨gb606,2,none⟩ = some (.bool a0_2):=bM BK606.out 2 rfl;have hcz18_3:w17.cell? ⟨gb606,3,none⟩ = some (.string a0_3):=bM BK606.out 3 rfl;have hfz18_0:=bZ BK606.out 0;have hfz18_1:=bZ BK606.out 1;have hfz18_2:=bZ BK606.out 2;have hfz18_3:=bZ BK606.out 3)|((with_reducible refine gate_callee (f:=20) rfl ?_);refine goesL_ (some 26) rfl rfl Tryd.func20 (by kernel_rfl) rfl #[.agg #[.string a0_0, .slice A0_1 l0_1.length c0_1, .bool a0_2, .string a0_3]] rfl (aE1 rfl) ?_;(with_reducible refine (laws_toAddr.calls k a0_0 _ _ l0_1 a0_2 a0_3 t608 t609 t612 t613 _ ?side1 ?side2 A10.out).mono ?_);(case side1=>repeat (first|exact (Kd.C_below HR0_1.out HB.out)|(with_reducible refine bC ?_)));(case side2=>exact HC0_1.out);rintro e w19 ⟨v610,rfl,ho0,hb⟩;refine ⟨_,rfl,?_⟩;have n0_:=Am (Kd.R_lower ho0 (bU (by repeat (first|(with_reducible first|exact HB.out|apply bA|apply bN|apply bD|refine bS ?_ GE606.out)|exact HB.out))));have n1_:=Am (blk_below (bB BK606.out) hb);have n2_:=Am (bT (by repeat (first|(with_reducible first|exact HB.out|apply bA|apply bN|apply bD|refine bS ?_ GE606.out)|exact HB.out)) hb);clear BK606 HB;have HO611:=n0_;have BK606:=n1_;have HB:=n2_;clear n0_ n1_ n2_;(try clear hb);(try clear ho0);obtain ⟨Ao20,co20,eo20⟩:=Kd.R_slice HO611.out;subst eo20)|((with_reducible refine gate_callee (f:=12) rfl ?_);refine goesL_ (some 28) rfl rfl Tryd.func12 (by kernel_rfl) rfl #[.agg #[.string t608, .slice Ao20 t609.length co20, .bool t612, .string t613], .string a1] rfl (aE2 rfl rfl) ?_;(with_reducible refine (spec_AddrJoin.calls k t608 _ _ t609 t612 t613 a1 t614 t615 t618 t619 t620 _ ?side1 ?side2 A11.out).mono ?_);(case side1=>repeat (first|exact (Kd.R_reads' HO611.out).2.2|(with_reducible refine bC ?_)));(case side2=>exact (Kd.R_reads' HO611.out).2.1);rintro e w21 ⟨v616,rfl,ho0,hb⟩;refine ⟨_,rfl,?_⟩;have n0_:=Am (Kd.R_elder' (bR HO611.out) (Kd.R_base ho0) hb);have n1_:=Am (Kd.R_lower (Kd.R_new' ho0 (Kd.R_lt (bR HO611.out))) (bU (by repeat (first|(with_reducible first|exact HB.out|apply bA|apply bN|apply bD|refine bS ?_ GE606.out)|exact HB.out))));have n2_:=Am (blk_below (bB BK606.out) hb);have n3_:=Am (bT (by repeat (first|(with_reducible first|exact HB.out|apply bA|apply bN|apply bD|refine bS ?_ GE606.out)|exact HB.out)) hb);clear HO611 BK606 HB;have HO611:=n0_;have HO617:=n1_;have BK606:=n2_;have HB:=n3_;clear n0_ n1_ n2_ n3_;(try clear hb);(try clear ho0))|((with_reducible refine gate_dst (N:=6) rfl ?_);refine box_event ?hg (N:=6) ?hd (cs:=#[.string (⟨#[]⟩:ByteArray), .slice none 0 0, .bool false, .string (⟨#[]⟩:ByteArray)]) (t:=25) ?hr ?_;(case hd=>rfl);(case hg=>rfl);(case hr=>(go_simp <;> rfl));intro gb621 hg w22 hbox hb;have n0_:=Am (Kd.R_below (bR HO611.out) hb);have n1_:=Am (Kd.R_below (bR HO617.out) hb);have n2_:=Am (blk_below (bB BK606.out) hb);have n3_:=Am (bT (by repeat (first|(with_reducible first|exact HB.out|apply bA|apply bN|apply bD|refine bS ?_ GE606.out)|exact HB.out)) hb);have n4_:=Am (hbox);have n5_:=Am ((by rw [hg];exact (bU (by repeat (first|(with_reducible first|exact HB.out|apply bA|apply bN|apply bD|refine bS ?_ GE606.out)|exact HB.out))):w.heap.size ≤ gb621));have n6_:=n5_;have n7_:=Am ((by rw [hg];exact Nat.ne_of_lt (blk_lt (bB BK606.out)):gb606 ≠ gb621));have n8_:=Am ((by rw [hg];exact Nat.ne_of_gt (blk_lt (bB BK606.out)):gb621 ≠ gb606));clear HO611 HO617 BK606 HB;have HO611:=n0_;have HO617:=n1_;have BK606:=n2_;have HB:=n3_;have BK621:=n4_;have GW621:=n5_;have GE621:=n6_;have NB606_621:=n7_;have NB621_606:=n8_;clear n0_ n1_ n2_ n3_ n4_ n5_ n6_ n7_ n8_ hb hbox hg;have hnb23:=NB621_606.out;have hnc23:=NB606_621.out;have hcz24_0:w22.cell? ⟨gb621,0,none⟩ = some (.string (⟨#[]⟩:ByteArray)):=bM BK621.out 0 rfl;have hcz24_1:w22.cell? ⟨gb621,1,none⟩ = some (.slice none 0 0):=bM BK621.out 1 rfl;have hcz24_2:w22.cell? ⟨gb621,2,none⟩ = some (.bool false):=bM BK621.out 2 rfl;have hcz24_3:w22.cell? ⟨gb621,3,none⟩ = some (.string (⟨#[]⟩:ByteArray)):=bM BK621.out 3 rfl;have hfz24_0:=bZ BK621.out 0;have hfz24_1:=bZ BK621.out 1;have hfz24_2:=bZ BK621.out 2;have hfz24_3:=bZ BK621.out 3;obtain ⟨Ao25,co25,eo25⟩:=Kd.R_slice HO617.out;subst eo25;have hcz26_0:w22.cell? ⟨gb606,0,none⟩ = some (.string a0_0):=bM BK606.out 0 rfl;have hcz26_1:w22.cell? ⟨gb606,1,none⟩ = some (.slice A0_1 l0_1.length c0_1):=bM BK606.out 1 rfl;have hcz26_2:w22.cell? ⟨gb606,2,none⟩ = some (.bool a0_2):=bM BK606.out 2 rfl;have hcz26_3:w22.cell? ⟨gb606,3,none⟩ = some (.string a0_3):=bM BK606.out 3 rfl;have hfz26_0:=bZ BK606.out 0;have hfz26_1:=bZ BK606.out 1;have hfz26_2:=bZ BK606.out 2;have hfz26_3:=bZ BK606.out 3)|((with_reducible refine gate_callee (f:=20) rfl ?_);refine goesL_ (some 32) rfl rfl Tryd.func20 (by kernel_rfl) rfl #[.agg #[.string a0_0, .slice A0_1 l0_1.length c0_1, .bool a0_2, .string a0_3]] rfl (aE1 rfl) ?_;(with_reducible refine (laws_toAddr.calls k a0_0 _ _ l0_1 a0_2 a0_3 t622 t623 t626 t627 _ ?side1 ?side2 A12.out).mono ?_);(case side1=>exact Kd.C_below HR0_1.out (by repeat (first|(with_reducible first|exact HB.out|apply bA|apply bN|apply bD|refine bS ?_ GE606.out|refine bS ?_ GE621.out)|exact HB.out)));(case side2=>exact HC0_1.out);rintro e w27 ⟨v624,rfl,ho0,hb⟩;refine ⟨_,rfl,?_⟩;have n0_:=Am (Kd.R_elder' (by (with_reducible repeat (first|apply rA|apply rN|apply rD));exact (bQ HO611.out BK621.out (by decide) _ _ _ _)) (Kd.R_base ho0) hb);have n1_:=Am (Kd.R_elder' (by (with_reducible repeat (first|apply rA|apply rN|apply rD));exact (bQ HO617.out BK621.out (by decide) _ _ _ _)) (Kd.R_base ho0) hb);have n2_:=Am (Kd.R_lower (Kd.R_new' (Kd.R_new' ho0 (Kd.R_lt (by (with_reducible repeat (first|apply rA|apply rN|apply rD));exact (bQ HO611.out BK621.out (by decide) _ _ _ _)))) (Kd.R_lt (by (with_reducible repeat (first|apply rA|apply rN|apply rD));exact (bQ HO617.out BK621.out (by decide) _ _ _ _)))) (bU (by repeat (first|(with_reducible first|exact HB.out|apply bA|apply bN|apply bD|refine bS ?_ GE606.out|refine bS ?_ GE621.out)|exact HB.out))));have n3_:=Am (blk_below (g:=gb606) (o:=.cells #[.string a0_0, .slice A0_1 l0_1.length c0_1, .bool a0_2, .string a0_3] 36 (0,0)) (by refine bB ?_;refine bF ?_ NB606_621.out;refine bB ?_;exact BK606.out) hb);have n4_:=Am (blk_below (g:=gb621) (o:=.cells #[.string t614, .slice Ao25 t615.length co25, .bool t618, .string t619] 25 (0,0)) (by refine bB ?_;apply bP;refine bB ?_;exact BK621.out) hb);have n5_:=Am (bT (by repeat (first|(with_reducible first|exact HB.out|apply bA|apply bN|apply bD|refine bS ?_ GE606.out|refine bS ?_ GE621.out)|exact HB.out)) hb);clear HO611 HO617 BK606 BK621 HB;have HO611:=n0_;have HO617:=n1_;have HO625:=n2_;have BK606:=n3_;have BK621:=n4_;have HB:=n5_;clear n0_ n1_ n2_ n3_ n4_ n5_;(try clear hb);(try clear ho0))|((with_reducible refine gate_dst (N:=8) rfl ?_);refine box_event ?hg (N:=8) ?hd (cs:=#[.string (⟨#[]⟩:ByteArray), .slice none 0 0, .bool false, .string (⟨#[]⟩:ByteArray)]) (t:=25) ?hr ?_;(case hd=>rfl);(case hg=>rfl);(case hr=>(go_simp <;> rfl));intro gb628 hg w28 hbox hb;have n0_:=Am (Kd.R_below (bR HO611.out) hb);have n1_:=Am (Kd.R_below (bR HO617.out) hb);have n2_:=Am (Kd.R_below (bR HO625.out) hb);have n3_:=Am (blk_below (bB BK606.out) hb);have n4_:=Am (blk_below (bB BK621.out) hb);have n5_:=Am (bT (by repeat (first|(with_reducible first|exact HB.out|apply bA|apply bN|apply bD|refine bS ?_ GE606.out|refine bS ?_ GE621.out)|exact HB.out)) hb);have n6_:=Am (hbox);have n7_:=Am ((by rw [hg];exact (bU (by repeat (first|(with_reducible first|exact HB.out|apply bA|apply bN|apply bD|refine bS ?_ GE606.out|refine bS ?_ GE621.out)|exact HB.out))):w.heap.size ≤ gb628));have n8_:=n7_;have n9_:=Am ((by rw [hg];exact Nat.ne_of_lt (blk_lt (bB BK606.out)):gb606 ≠ gb628));have n10_:=Am ((by rw [hg];exact Nat.ne_of_gt (blk_lt (bB BK606.out)):gb628 ≠ gb606));have n11_:=Am ((by rw [hg];exact Nat.ne_of_lt (blk_lt (bB BK621.out)):gb621 ≠ gb628));have n12_:=Am ((by rw [hg];exact Nat.ne_of_gt (blk_lt (bB BK621.out)):gb628 ≠ gb621));clear HO611 HO617 HO625 BK606 BK621 HB;have HO611:=n0_;have HO617:=n1_;have HO625:=n2_;have BK606:=n3_;have BK621:=n4_;have HB:=n5_;have BK628:=n6_;have GW628:=n7_;have GE628:=n8_;have NB606_628:=n9_;have NB628_606:=n10_;have NB621_628:=n11_;have NB628_621:=n12_;clear n0_ n1_ n2_ n3_ n4_ n5_ n6_ n7_ n8_ n9_ n10_ n11_ n12_ hb hbox hg;have hnb29:=NB628_606.out;have hnc29:=NB606_628.out;have hnb30:=NB628_621.out;have hnc30:=NB621_628.out;have hcz31_0:w28.cell? ⟨gb628,0,none⟩ = some (.string (⟨#[]⟩:ByteArray)):=bM BK628.out 0 rfl;have hcz31_1:w28.cell? ⟨gb628,1,none⟩ = some (.slice none 0 0):=bM BK628.out 1 rfl;have hcz31_2:w28.cell? ⟨gb628,2,none⟩ = some (.bool false):=bM BK628.out 2 rfl;have hcz31_3:w28.cell? ⟨gb628,3,none⟩ = some (.string (⟨#[]⟩:ByteArray)):=bM BK628.out 3 rfl;have hfz31_0:=bZ BK628.out 0;have hfz31_1:=bZ BK628.out 1;have hfz31_2:=bZ BK628.out 2;have hfz31_3:=bZ BK628.out 3;obtain ⟨Ao32,co32,eo32⟩:=Kd.R_slice HO625.out;subst eo32)|((with_reducible refine gate_callee (f:=13) rfl ?_);refine goesL_ (some 36) rfl rfl Tryd.func13 (by kernel_rfl) rfl #[.agg #[.string t622, .slice Ao32 t623.length co32, .bool t626, .string t627], .string a1] rfl (aE2 rfl rfl) ?_;(with_reducible refine (impl_AddrJoin.calls k t622 _ _ t623 t626 t627 a1 t629 t630 t633 t634 t635 _ ?side1 ?side2 A13.out).mono ?_);(case side1=>refine (Kd.R_reads' (e:=9) (base:=w.heap.size) (ok:=fun k_=>((True ∧ some k_ ≠ (.slice Ao20 t609.length co20:Value).ownBlock) ∧ some k_ ≠ (.slice Ao25 t615.length co25:Value).ownBlock)) (n:=t623.length) (c:=co32) ?_).2.2;exact (by (with_reducible repeat (first|apply rA|apply rN|apply rD));exact (bQ HO625.out BK628.out (by decide) _ _ _ _)));(case side2=>exact (Kd.R_reads' HO625.out).2.1);rintro e w33 ⟨v631,rfl,ho0,hb⟩;refine ⟨_,rfl,?_⟩;have n0_:=Am (Kd.R_elder' (by (with_reducible repeat (first|apply rA|apply rN|apply rD));exact (bQ HO611.out BK628.out (by decide) _ _ _ _)) (Kd.R_base ho0) hb);have n1_:=Am (Kd.R_elder' (by (with_reducible repeat (first|apply rA|apply rN|apply rD));exact (bQ HO617.out BK628.out (by decide) _ _ _ _)) (Kd.R_base ho0) hb);have n2_:=Am (Kd.R_elder' (by (with_reducible repeat (first|apply rA|apply rN|apply rD));exact (bQ HO625.out BK628.out (by decide) _ _ _ _)) (Kd.R_base ho0) hb);have n3_:=Am (Kd.R_lower (Kd.R_new' (Kd.R_new' (Kd.R_new' ho0 (Kd.R_lt (by (with_reducible repeat (first|apply rA|apply rN|apply rD));exact (bQ HO611.out BK628.out (by decide) _ _ _ _)))) (Kd.R_lt (by (with_reducible repeat (first|apply rA|apply rN|apply rD));exact (bQ HO617.out BK628.out (by decide) _ _ _ _)))) (Kd.R_lt (by (with_reducible repeat (first|apply rA|apply rN|apply rD));exact (bQ HO625.out BK628.out (by decide) _ _ _ _)))) (bU (by repeat (first|(with_reducible first|exact HB.out|apply bA|apply bN|apply bD|refine bS ?_ GE606.out|refine bS ?_ GE621.out|refine bS ?_ GE628.out)|exact HB.out))));have n4_:=Am (blk_below (g:=gb606) (o:=.cells #[.string a0_0, .slice A0_1 l0_1.length c0_1, .bool a0_2, .string a0_3] 36 (0,0)) (by refine bB ?_;refine bF ?_ NB606_628.out;refine bB ?_;exact BK606.out) hb);have n5_:=Am (blk_below (g:=gb621) (o:=.cells #[.string t614, .slice Ao25 t615.length co25, .bool t618, .string t619] 25 (0,0)) (by refine bB ?_;refine bF ?_ NB621_628.out;refine bB ?_;exact BK621.out) hb);have n6_:=Am (blk_below (g:=gb628) (o:=.cells #[.string t622, .slice Ao32 t623.length co32, .bool t626, .string t627] 25 (0,0)) (by refine bB ?_;apply bP;refine bB ?_;exact BK628.out) hb);have n7_:=Am (bT (by repeat (first|(with_reducible first|exact HB.out|apply bA|apply bN|apply bD|refine bS ?_ GE606.out|refine bS ?_ GE621.out|refine bS ?_ GE628.out)|exact HB.out)) hb);clear HO611 HO617 HO625 BK606 BK621 BK628 HB;have HO611:=n0_;have HO617:=n1_;have HO625:=n2_;have HO632:=n3_;have BK606:=n4_;have BK621:=n5_;have BK628:=n6_;have HB:=n7_;clear n0_ n1_ n2_ n3_ n4_ n5_ n6_ n7_;(try clear hb);(try clear ho0))|((with_reducible refine gate_dst (N:=9) rfl ?_);refine box_event ?hg (N:=9) ?hd (cs:=#[.string (⟨#[]⟩:ByteArray), .slice none 0 0, .bool false, .string (⟨#[]⟩:ByteArray)]) (t:=25) ?hr ?_;(case hd=>rfl);(case hg=>rfl);(case hr=>(go_simp <;> rfl));intro gb636 hg w34 hbox hb;have n0_:=Am (Kd.R_below (bR HO611.out) hb);have n1_:=Am (Kd.R_below (bR HO617.out) hb);have n2_:=Am (Kd.R_below (bR HO625.out) hb);have n3_:=Am (Kd.R_below (bR HO632.out) hb);have n4_:=Am (blk_below (bB BK606.out) hb);have n5_:=Am (blk_below (bB BK621.out) hb);have n6_:=Am (blk_below (bB BK628.out) hb);have n7_:=Am (bT (by repeat (first|(with_reducible first|exact HB.out|apply bA|apply bN|apply bD|refine bS ?_ GE606.out|refine bS ?_ GE621.out|refine bS ?_ GE628.out)|exact HB.out)) hb);have n8_:=Am (hbox);have n9_:=Am ((by rw [hg];exact (bU (by repeat (first|(with_reducible first|exact HB.out|apply bA|apply bN|apply bD|refine bS ?_ GE606.out|refine bS ?_ GE621.out|refine bS ?_ GE628.out)|exact HB.out))):w.heap.size ≤ gb636));have n10_:=n9_;have n11_:=Am ((by rw [hg];exact Nat.ne_of_lt (blk_lt (bB BK606.out)):gb606 ≠ gb636));have n12_:=Am ((by rw [hg];exact Nat.ne_of_gt (blk_lt (bB BK606.out)):gb636 ≠ gb606));have n13_:=Am ((by rw [hg];exact Nat.ne_of_lt (blk_lt (bB BK621.out)):gb621 ≠ gb636));have n14_:=Am ((by rw [hg];exact Nat.ne_of_gt (blk_lt (bB BK621.out)):gb636 ≠ gb621));have n15_:=Am ((by rw [hg];exact Nat.ne_of_lt (blk_lt (bB BK628.out)):gb628 ≠ gb636));have n16_:=Am ((by rw [hg];exact Nat.ne_of_gt (blk_lt (bB BK628.out)):gb636 ≠ gb628));clear HO611 HO617 HO625 HO632 BK606 BK621 BK628 HB;have HO611:=n0_;have HO617:=n1_;have HO625:=n2_;have HO632:=n3_;have BK606:=n4_;have BK621:=n5_;have BK628:=n6_;have HB:=n7_;have BK636:=n8_;have GW636:=n9_;have GE636:=n10_;have NB606_636:=n11_;have NB636_606:=n12_;have NB621_636:=n13_;have NB636_621:=n14_;have NB628_636:=n15_;have NB636_628:=n16_;clear n0_ n1_ n2_ n3_ n4_ n5_ n6_ n7_ n8_ n9_ n10_ n11_ n12_ n13_ n14_ n15_ n16_ hb hbox hg;have hnb35:=NB636_606.out;have hnc35:=NB606_636.out;have hnb36:=NB636_621.out;have hnc36:=NB621_636.out;have hnb37:=NB636_628.out;have hnc37:=NB628_636.out;have hcz38_0:w34.cell? ⟨gb636,0,none⟩ = some (.string (⟨#[]⟩:ByteArray)):=bM BK636.out 0 rfl;have hcz38_1:w34.cell? ⟨gb636,1,none⟩ = some (.slice none 0 0):=bM BK636.out 1 rfl;have hcz38_2:w34.cell? ⟨gb636,2,none⟩ = some (.bool false):=bM BK636.out 2 rfl;have hcz38_3:w34.cell? ⟨gb636,3,none⟩ = some (.string (⟨#[]⟩:ByteArray)):=bM BK636.out 3 rfl;have hfz38_0:=bZ BK636.out 0;have hfz38_1:=bZ BK636.out 1;have hfz38_2:=bZ BK636.out 2;have hfz38_3:=bZ BK636.out 3;obtain ⟨Ao39,co39,eo39⟩:=Kd.R_slice HO632.out;subst eo39))
   (try simp only [Act.put,List.setIfInBounds_toArray,List.set_cons_zero,List.set_cons_succ])
   go_cut [47] (fun v47 wc=>∃ (kq:Nat) (x47_13:Bool),v47 = .bool x47_13 ∧ Aside0 (laws_FnExactAddrJoin.j0 kq a1 t620 t635 x47_13 a0_0 l0_1 a0_2 a0_3 t614 t615 t618 t619 t622 t623 t626 t627 t629 t630 t633 t634 = some r) ∧ Aside0 (kq ≤ k) ∧ Aside0 (Kd.R Kd.string 9 wc w.heap.size (fun k_=>some k_ ≠ ((.slice Ao32 t623.length co32):Value).ownBlock ∧ some k_ ≠ ((.slice Ao39 t630.length co39):Value).ownBlock) (.slice Ao25 t615.length co25) t615) ∧ Aside0 (Kd.R Kd.string 9 wc w.heap.size (fun k_=>some k_ ≠ ((.slice Ao25 t615.length co25):Value).ownBlock ∧ some k_ ≠ ((.slice Ao39 t630.length co39):Value).ownBlock) (.slice Ao32 t623.length co32) t623) ∧ Aside0 (Kd.R Kd.string 9 wc w.heap.size (fun k_=>some k_ ≠ ((.slice Ao25 t615.length co25):Value).ownBlock ∧ some k_ ≠ ((.slice Ao32 t623.length co32):Value).ownBlock) (.slice Ao39 t630.length co39) t630) ∧ Aside0 (wc.heap[gb606]? = some (.cells #[.string a0_0,(.slice A0_1 l0_1.length c0_1), .bool a0_2, .string a0_3] 36 (0,0))) ∧ Aside0 (wc.heap[gb621]? = some (.cells #[.string t614,(.slice Ao25 t615.length co25), .bool t618, .string t619] 25 (0,0))) ∧ Aside0 (wc.heap[gb628]? = some (.cells #[.string t622,(.slice Ao32 t623.length co32), .bool t626, .string t627] 25 (0,0))) ∧ Aside0 (wc.heap[gb636]? = some (.cells #[.string t629,(.slice Ao39 t630.length co39), .bool t633, .string t634] 25 (0,0))) ∧ Aside0 (Below w.heap.size w wc))
   case first =>
    have H:=HC14.out
    clear HC14
    replace H:=bI H
    obtain ⟨t637,A400,H⟩:=H
    replace H:(if t637 = true then (laws_FnExactAddrJoin.j0 k a1 t620 t635 (t635 != t620) a0_0 l0_1 a0_2 a0_3 t614 t615 t618 t619 t622 t623 t626 t627 t629 t630 t633 t634) else (laws_FnExactAddrJoin.j0 k a1 t620 t635 true a0_0 l0_1 a0_2 a0_3 t614 t615 t618 t619 t622 t623 t626 t627 t629 t630 t633 t634)) = some r:=H
    have A40:=Am A400
    clear A400
    by_cases c41:t637 = true
    ·subst c41
     have H1:(laws_FnExactAddrJoin.j0 k a1 t620 t635 (t635 != t620) a0_0 l0_1 a0_2 a0_3 t614 t615 t618 t619 t622 t623 t626 t627 t629 t630 t633 t634) = some r:=by rw [if_pos rfl] at H;exact H
     clear H
     have H:=H1
     clear H1
     have H':=Am H
     clear H
     have hnb42:=NB636_606.out
     have hnc42:=NB606_636.out
     have hnb43:=NB636_621.out
     have hnc43:=NB621_636.out
     have hnb44:=NB636_628.out
     have hnc44:=NB628_636.out
     have hcz45_0:w34.cell? ⟨gb636,0,none⟩ = some (.string (⟨#[]⟩:ByteArray)):=bM BK636.out 0 rfl
     have hcz45_1:w34.cell? ⟨gb636,1,none⟩ = some (.slice none 0 0):=bM BK636.out 1 rfl
     have hcz45_2:w34.cell? ⟨gb636,2,none⟩ = some (.bool false):=bM BK636.out 2 rfl
     have hcz45_3:w34.cell? ⟨gb636,3,none⟩ = some (.string (⟨#[]⟩:ByteArray)):=bM BK636.out 3 rfl
     have hfz45_0:=bZ BK636.out 0
     have hfz45_1:=bZ BK636.out 1
     have hfz45_2:=bZ BK636.out 2
     have hfz45_3:=bZ BK636.out 3
     have hnb46:=NB621_606.out
     have hnc46:=NB606_621.out
     have hnb47:=NB621_628.out
     have hnc47:=NB628_621.out
     have hcz48_0:w34.cell? ⟨gb621,0,none⟩ = some (.string t614):=bM BK621.out 0 rfl
     have hcz48_1:w34.cell? ⟨gb621,1,none⟩ = some (.slice Ao25 t615.length co25):=bM BK621.out 1 rfl
     have hcz48_2:w34.cell? ⟨gb621,2,none⟩ = some (.bool t618):=bM BK621.out 2 rfl
     have hcz48_3:w34.cell? ⟨gb621,3,none⟩ = some (.string t619):=bM BK621.out 3 rfl
     have hfz48_0:=bZ BK621.out 0
     have hfz48_1:=bZ BK621.out 1
     have hfz48_2:=bZ BK621.out 2
     have hfz48_3:=bZ BK621.out 3
     go_wp2_with (first|((with_reducible refine gate_callee (f:=21) rfl ?_);refine goesL_ (some 41) rfl rfl Tryd.func21 (by kernel_rfl) rfl #[.agg #[.string t629, .slice Ao39 t630.length co39, .bool t633, .string t634], .agg #[.string t614, .slice Ao25 t615.length co25, .bool t618, .string t619]] rfl (aE2 rfl rfl) ?_;(with_reducible refine (laws_eqAddr.calls k t629 _ _ t630 t633 t634 t614 _ _ t615 t618 t619 true _ ?side1 ?side2 ?side3 ?side4 A40.out).mono ?_);(case side1=>refine (Kd.R_reads' (e:=9) (base:=w.heap.size) (ok:=fun k_=>(((True ∧ some k_ ≠ (.slice Ao20 t609.length co20:Value).ownBlock) ∧ some k_ ≠ (.slice Ao25 t615.length co25:Value).ownBlock) ∧ some k_ ≠ (.slice Ao32 t623.length co32:Value).ownBlock)) (n:=t630.length) (c:=co39) ?_).2.2;exact (by (with_reducible repeat (first|apply rA|apply rN|apply rD));exact (bQ HO632.out BK636.out (by decide) _ _ _ _)));(case side2=>exact (Kd.R_reads' HO632.out).2.1);(case side3=>refine (Kd.R_reads' (e:=9) (base:=w.heap.size) (ok:=fun k_=>(((True ∧ some k_ ≠ (.slice Ao20 t609.length co20:Value).ownBlock) ∧ some k_ ≠ (.slice Ao32 t623.length co32:Value).ownBlock) ∧ some k_ ≠ (.slice Ao39 t630.length co39:Value).ownBlock)) (n:=t615.length) (c:=co25) ?_).2.2;exact (by (with_reducible repeat (first|apply rA|apply rN|apply rD));exact (bQ HO617.out BK636.out (by decide) _ _ _ _)));(case side4=>exact (Kd.R_reads' HO617.out).2.1);rintro e w49 ⟨rfl,hb⟩;refine ⟨_,rfl,?_⟩;have n0_:=Am (Kd.R_below (by (with_reducible repeat (first|apply rA|apply rN|apply rD));exact (bQ HO611.out BK636.out (by decide) _ _ _ _)) hb);have n1_:=Am (Kd.R_below (by (with_reducible repeat (first|apply rA|apply rN|apply rD));exact (bQ HO617.out BK636.out (by decide) _ _ _ _)) hb);have n2_:=Am (Kd.R_below (by (with_reducible repeat (first|apply rA|apply rN|apply rD));exact (bQ HO625.out BK636.out (by decide) _ _ _ _)) hb);have n3_:=Am (Kd.R_below (by (with_reducible repeat (first|apply rA|apply rN|apply rD));exact (bQ HO632.out BK636.out (by decide) _ _ _ _)) hb);have n4_:=Am (blk_below (g:=gb606) (o:=.cells #[.string a0_0, .slice A0_1 l0_1.length c0_1, .bool a0_2, .string a0_3] 36 (0,0)) (by refine bB ?_;refine bF ?_ NB606_636.out;refine bB ?_;exact BK606.out) hb);have n5_:=Am (blk_below (g:=gb621) (o:=.cells #[.string t614, .slice Ao25 t615.length co25, .bool t618, .string t619] 25 (0,0)) (by refine bB ?_;refine bF ?_ NB621_636.out;refine bB ?_;exact BK621.out) hb);have n6_:=Am (blk_below (g:=gb628) (o:=.cells #[.string t622, .slice Ao32 t623.length co32, .bool t626, .string t627] 25 (0,0)) (by refine bB ?_;refine bF ?_ NB628_636.out;refine bB ?_;exact BK628.out) hb);have n7_:=Am (blk_below (g:=gb636) (o:=.cells #[.string t629, .slice Ao39 t630.length co39, .bool t633, .string t634] 25 (0,0)) (by refine bB ?_;apply bP;refine bB ?_;exact BK636.out) hb);have n8_:=Am (bT (by repeat (first|(with_reducible first|exact HB.out|apply bA|apply bN|apply bD|refine bS ?_ GE606.out|refine bS ?_ GE621.out|refine bS ?_ GE628.out|refine bS ?_ GE636.out)|exact HB.out)) hb);clear HO611 HO617 HO625 HO632 BK606 BK621 BK628 BK636 HB;have HO611:=n0_;have HO617:=n1_;have HO625:=n2_;have HO632:=n3_;have BK606:=n4_;have BK621:=n5_;have BK628:=n6_;have BK636:=n7_;have HB:=n8_;clear n0_ n1_ n2_ n3_ n4_ n5_ n6_ n7_ n8_;(try clear hb)))
     go_meet
     case rel=>exact ⟨_,((t635 != t620)),(by first|rfl|(simp;done)|(simp only [i64_w,i32_w] <;> rfl)|(simp [*];done)|(simp [emp_bne,emp_beq];done)),H',⟨by first|omega|exact Nat.le_refl _⟩,⟨by (with_reducible repeat (first|apply rA|apply rN|apply rD));exact Kd.R_mono HO617.out (fun _ hk=>⟨hk.1.2,hk.2⟩)⟩,⟨by (with_reducible repeat (first|apply rA|apply rN|apply rD));exact Kd.R_mono HO625.out (fun _ hk=>⟨hk.1.2,hk.2⟩)⟩,⟨by (with_reducible repeat (first|apply rA|apply rN|apply rD));exact Kd.R_mono HO632.out (fun _ hk=>⟨hk.1.2,hk.2⟩)⟩,⟨by refine bB ?_;exact BK606.out⟩,⟨by refine bB ?_;exact BK621.out⟩,⟨by refine bB ?_;exact BK628.out⟩,⟨by refine bB ?_;exact BK636.out⟩,⟨by repeat (first|(with_reducible first|exact HB.out|apply bA|apply bN|apply bD|refine bS ?_ GE606.out|refine bS ?_ GE621.out|refine bS ?_ GE628.out|refine bS ?_ GE636.out)|exact HB.out)⟩⟩
    ·replace c41:=Bool.eq_false_iff.mpr c41
     subst c41
     have H1:(laws_FnExactAddrJoin.j0 k a1 t620 t635 true a0_0 l0_1 a0_2 a0_3 t614 t615 t618 t619 t622 t623 t626 t627 t629 t630 t633 t634) = some r:=by rw [if_neg (show ¬ (false = true) by decide)] at H;exact H
     clear H
     have H:=H1
     clear H1
     have H':=Am H
     clear H
     have hnb50:=NB636_606.out
     have hnc50:=NB606_636.out
     have hnb51:=NB636_621.out
     have hnc51:=NB621_636.out
     have hnb52:=NB636_628.out
     have hnc52:=NB628_636.out
     have hcz53_0:w34.cell? ⟨gb636,0,none⟩ = some (.string (⟨#[]⟩:ByteArray)):=bM BK636.out 0 rfl
     have hcz53_1:w34.cell? ⟨gb636,1,none⟩ = some (.slice none 0 0):=bM BK636.out 1 rfl
     have hcz53_2:w34.cell? ⟨gb636,2,none⟩ = some (.bool false):=bM BK636.out 2 rfl
     have hcz53_3:w34.cell? ⟨gb636,3,none⟩ = some (.string (⟨#[]⟩:ByteArray)):=bM BK636.out 3 rfl
     have hfz53_0:=bZ BK636.out 0
     have hfz53_1:=bZ BK636.out 1
     have hfz53_2:=bZ BK636.out 2
     have hfz53_3:=bZ BK636.out 3
     have hnb54:=NB621_606.out
     have hnc54:=NB606_621.out
     have hnb55:=NB621_628.out
     have hnc55:=NB628_621.out
     have hcz56_0:w34.cell? ⟨gb621,0,none⟩ = some (.string t614):=bM BK621.out 0 rfl
     have hcz56_1:w34.cell? ⟨gb621,1,none⟩ = some (.slice Ao25 t615.length co25):=bM BK621.out 1 rfl
     have hcz56_2:w34.cell? ⟨gb621,2,none⟩ = some (.bool t618):=bM BK621.out 2 rfl
     have hcz56_3:w34.cell? ⟨gb621,3,none⟩ = some (.string t619):=bM BK621.out 3 rfl
     have hfz56_0:=bZ BK621.out 0
     have hfz56_1:=bZ BK621.out 1
     have hfz56_2:=bZ BK621.out 2
     have hfz56_3:=bZ BK621.out 3
     go_wp2_with (first|((with_reducible refine gate_callee (f:=21) rfl ?_);refine goesL_ (some 41) rfl rfl Tryd.func21 (by kernel_rfl) rfl #[.agg #[.string t629, .slice Ao39 t630.length co39, .bool t633, .string t634], .agg #[.string t614, .slice Ao25 t615.length co25, .bool t618, .string t619]] rfl (aE2 rfl rfl) ?_;(with_reducible refine (laws_eqAddr.calls k t629 _ _ t630 t633 t634 t614 _ _ t615 t618 t619 false _ ?side1 ?side2 ?side3 ?side4 A40.out).mono ?_);(case side1=>refine (Kd.R_reads' (e:=9) (base:=w.heap.size) (ok:=fun k_=>(((True ∧ some k_ ≠ (.slice Ao20 t609.length co20:Value).ownBlock) ∧ some k_ ≠ (.slice Ao25 t615.length co25:Value).ownBlock) ∧ some k_ ≠ (.slice Ao32 t623.length co32:Value).ownBlock)) (n:=t630.length) (c:=co39) ?_).2.2;exact (by (with_reducible repeat (first|apply rA|apply rN|apply rD));exact (bQ HO632.out BK636.out (by decide) _ _ _ _)));(case side2=>exact (Kd.R_reads' HO632.out).2.1);(case side3=>refine (Kd.R_reads' (e:=9) (base:=w.heap.size) (ok:=fun k_=>(((True ∧ some k_ ≠ (.slice Ao20 t609.length co20:Value).ownBlock) ∧ some k_ ≠ (.slice Ao32 t623.length co32:Value).ownBlock) ∧ some k_ ≠ (.slice Ao39 t630.length co39:Value).ownBlock)) (n:=t615.length) (c:=co25) ?_).2.2;exact (by (with_reducible repeat (first|apply rA|apply rN|apply rD));exact (bQ HO617.out BK636.out (by decide) _ _ _ _)));(case side4=>exact (Kd.R_reads' HO617.out).2.1);rintro e w57 ⟨rfl,hb⟩;refine ⟨_,rfl,?_⟩;have n0_:=Am (Kd.R_below (by (with_reducible repeat (first|apply rA|apply rN|apply rD));exact (bQ HO611.out BK636.out (by decide) _ _ _ _)) hb);have n1_:=Am (Kd.R_below (by (with_reducible repeat (first|apply rA|apply rN|apply rD));exact (bQ HO617.out BK636.out (by decide) _ _ _ _)) hb);have n2_:=Am (Kd.R_below (by (with_reducible repeat (first|apply rA|apply rN|apply rD));exact (bQ HO625.out BK636.out (by decide) _ _ _ _)) hb);have n3_:=Am (Kd.R_below (by (with_reducible repeat (first|apply rA|apply rN|apply rD));exact (bQ HO632.out BK636.out (by decide) _ _ _ _)) hb);have n4_:=Am (blk_below (g:=gb606) (o:=.cells #[.string a0_0, .slice A0_1 l0_1.length c0_1, .bool a0_2, .string a0_3] 36 (0,0)) (by refine bB ?_;refine bF ?_ NB606_636.out;refine bB ?_;exact BK606.out) hb);have n5_:=Am (blk_below (g:=gb621) (o:=.cells #[.string t614, .slice Ao25 t615.length co25, .bool t618, .string t619] 25 (0,0)) (by refine bB ?_;refine bF ?_ NB621_636.out;refine bB ?_;exact BK621.out) hb);have n6_:=Am (blk_below (g:=gb628) (o:=.cells #[.string t622, .slice Ao32 t623.length co32, .bool t626, .string t627] 25 (0,0)) (by refine bB ?_;refine bF ?_ NB628_636.out;refine bB ?_;exact BK628.out) hb);have n7_:=Am (blk_below (g:=gb636) (o:=.cells #[.string t629, .slice Ao39 t630.length co39, .bool t633, .string t634] 25 (0,0)) (by refine bB ?_;apply bP;refine bB ?_;exact BK636.out) hb);have n8_:=Am (bT (by repeat (first|(with_reducible first|exact HB.out|apply bA|apply bN|apply bD|refine bS ?_ GE606.out|refine bS ?_ GE621.out|refine bS ?_ GE628.out|refine bS ?_ GE636.out)|exact HB.out)) hb);clear HO611 HO617 HO625 HO632 BK606 BK621 BK628 BK636 HB;have HO611:=n0_;have HO617:=n1_;have HO625:=n2_;have HO632:=n3_;have BK606:=n4_;have BK621:=n5_;have BK628:=n6_;have BK636:=n7_;have HB:=n8_;clear n0_ n1_ n2_ n3_ n4_ n5_ n6_ n7_ n8_;(try clear hb)))
     go_meet
     case rel=>exact ⟨_,(true),(by first|rfl|(simp;done)|(simp only [i64_w,i32_w] <;> rfl)|(simp [*];done)|(simp [emp_bne,emp_beq];done)),H',⟨by first|omega|exact Nat.le_refl _⟩,⟨by (with_reducible repeat (first|apply rA|apply rN|apply rD));exact Kd.R_mono HO617.out (fun _ hk=>⟨hk.1.2,hk.2⟩)⟩,⟨by (with_reducible repeat (first|apply rA|apply rN|apply rD));exact Kd.R_mono HO625.out (fun _ hk=>⟨hk.1.2,hk.2⟩)⟩,⟨by (with_reducible repeat (first|apply rA|apply rN|apply rD));exact Kd.R_mono HO632.out (fun _ hk=>⟨hk.1.2,hk.2⟩)⟩,⟨by refine bB ?_;exact BK606.out⟩,⟨by refine bB ?_;exact BK621.out⟩,⟨by refine bB ?_;exact BK628.out⟩,⟨by refine bB ?_;exact BK636.out⟩,⟨by repeat (first|(with_reducible first|exact HB.out|apply bA|apply bN|apply bD|refine bS ?_ GE606.out|refine bS ?_ GE621.out|refine bS ?_ GE628.out|refine bS ?_ GE636.out)|exact HB.out)⟩⟩
   case rest =>
    clear HC14
    try clear c1
    try clear c2
    try clear p2
    try clear c3
    try clear c3b0
    try clear c3b1
    try clear c4
    try clear c5
    try clear c6
    try clear c6b0
    try clear c12
    try clear c13
    try clear c19
    try clear c20
    try clear c21
    try clear c23
    try clear c29
    try clear c30
    try clear c35
    try clear c36
    try clear c37
    try clear c41
    try clear c42
    try clear c43
    try clear c44
    try clear c46
    try clear c47
    try clear c50
    try clear c51
    try clear c52
    try clear c54
    try clear c55
    try clear hcz16_0
    try clear hcz16_1
    try clear hcz16_2
    try clear hcz16_3
    try clear hcz18_0
    try clear hcz18_1
    try clear hcz18_2
    try clear hcz18_3
    try clear hcz24_0
    try clear hcz24_1
    try clear hcz24_2
    try clear hcz24_3
    try clear hcz26_0
    try clear hcz26_1
    try clear hcz26_2
    try clear hcz26_3
    try clear hcz31_0
    try clear hcz31_1
    try clear hcz31_2
    try clear hcz31_3
    try clear hcz38_0
    try clear hcz38_1
    try clear hcz38_2
    try clear hcz38_3
    try clear hcz45_0
    try clear hcz45_1
    try clear hcz45_2
    try clear hcz45_3
    try clear hcz48_0
    try clear hcz48_1
    try clear hcz48_2
    try clear hcz48_3
    try clear hcz53_0
    try clear hcz53_1
    try clear hcz53_2
    try clear hcz53_3
    try clear hcz56_0
    try clear hcz56_1
    try clear hcz56_2
    try clear hcz56_3
    try clear hcz8_0
    try clear hcz8_1
    try clear hcz8_2
    try clear hcz8_3
    try clear hfz16_0
    try clear hfz16_1
    try clear hfz16_2
    try clear hfz16_3
    try clear hfz18_0
    try clear hfz18_1
    try clear hfz18_2
    try clear hfz18_3
    try clear hfz24_0
    try clear hfz24_1
    try clear hfz24_2
    try clear hfz24_3
    try clear hfz26_0
    try clear hfz26_1
    try clear hfz26_2
    try clear hfz26_3
    try clear hfz31_0
    try clear hfz31_1
    try clear hfz31_2
    try clear hfz31_3
    try clear hfz38_0
    try clear hfz38_1
    try clear hfz38_2
    try clear hfz38_3
    try clear hfz45_0
    try clear hfz45_1
    try clear hfz45_2
    try clear hfz45_3
    try clear hfz48_0
    try clear hfz48_1
    try clear hfz48_2
    try clear hfz48_3
    try clear hfz53_0
    try clear hfz53_1
    try clear hfz53_2
    try clear hfz53_3
    try clear hfz56_0
    try clear hfz56_1
    try clear hfz56_2
    try clear hfz56_3
    try clear hfz8_0
    try clear hfz8_1
    try clear hfz8_2
    try clear hfz8_3
    obtain ⟨kq,x47_13,rfl,HA,HJ13,HO_622001,HO_629001,HO_637001,BK606,BK621,BK628,BK636,HB⟩:=hcut
    cases kq with
    | zero=>exact absurd HA.out (by simp [laws_FnExactAddrJoin.j0])
    | succ kj13 =>
     have H:=HA.out
     clear HA
     simp only [laws_FnExactAddrJoin.j0] at H
     by_cases c58:x47_13 = true
     ·subst c58
      have H1:(some false) = some r:=by rw [if_pos rfl] at H;exact H
      clear H
      have H:=H1
      clear H1
      obtain rfl:=Option.some.inj H
      go_wp2
      go_ret
      exact ⟨by first|rfl|(simp <;> rfl)|(simp [*] <;> rfl),by repeat (first|(with_reducible first|exact HB.out|apply bA|apply bN|apply bD|refine bS ?_ GE606.out|refine bS ?_ GE621.out|refine bS ?_ GE628.out|refine bS ?_ GE636.out)|exact HB.out)⟩
     ·replace c58:=Bool.eq_false_iff.mpr c58
      subst c58
      have H1:((laws_toAddr.f kj13 a0_0 l0_1 a0_2 a0_3).bind fun bt638=>((laws_eqAddr.f kj13 t622 t623 t626 t627 bt638.1 bt638.2.1 bt638.2.2.1 bt638.2.2.2).bind fun t644=>(if t644 = true then ((laws_markAddr.f kj13 t622 t623 t626 t627 1).bind fun bt645=>(if bt645.1 < 0 then (laws_FnExactAddrJoin.j1 kj13 a1 t620 true a0_0 l0_1 a0_2 a0_3 t614 t615 t618 t619 t629 t630 t633 t634) else ((laws_eqAddr.f kj13 t629 t630 t633 t634 t614 t615 t618 t619).bind fun t647=>(if t647 = true then (laws_FnExactAddrJoin.j1 kj13 a1 t620 (t635 != t620) a0_0 l0_1 a0_2 a0_3 t614 t615 t618 t619 t629 t630 t633 t634) else (laws_FnExactAddrJoin.j1 kj13 a1 t620 true a0_0 l0_1 a0_2 a0_3 t614 t615 t618 t619 t629 t630 t633 t634))))) else (some false)))) = some r:=by rw [if_neg (show ¬ (false = true) by decide)] at H;exact H
      clear H
      have H:=H1
      clear H1
      replace H:=bI H
      obtain ⟨⟨t638,t639,t642,t643⟩,A590,H⟩:=H
      replace H:((laws_eqAddr.f kj13 t622 t623 t626 t627 t638 t639 t642 t643).bind fun t644=>(if t644 = true then ((laws_markAddr.f kj13 t622 t623 t626 t627 1).bind fun bt645=>(if bt645.1 < 0 then (laws_FnExactAddrJoin.j1 kj13 a1 t620 true a0_0 l0_1 a0_2 a0_3 t614 t615 t618 t619 t629 t630 t633 t634) else ((laws_eqAddr.f kj13 t629 t630 t633 t634 t614 t615 t618 t619).bind fun t647=>(if t647 = true then (laws_FnExactAddrJoin.j1 kj13 a1 t620 (t635 != t620) a0_0 l0_1 a0_2 a0_3 t614 t615 t618 t619 t629 t630 t633 t634) else (laws_FnExactAddrJoin.j1 kj13 a1 t620 true a0_0 l0_1 a0_2 a0_3 t614 t615 t618 t619 t629 t630 t633 t634))))) else (some false))) = some r:=H
      have A59:=Am A590
      clear A590
      replace H:=bI H
      obtain ⟨t644,A600,H⟩:=H
      replace H:(if t644 = true then ((laws_markAddr.f kj13 t622 t623 t626 t627 1).bind fun bt645=>(if bt645.1 < 0 then (laws_FnExactAddrJoin.j1 kj13 a1 t620 true a0_0 l0_1 a0_2 a0_3 t614 t615 t618 t619 t629 t630 t633 t634) else ((laws_eqAddr.f kj13 t629 t630 t633 t634 t614 t615 t618 t619).bind fun t647=>(if t647 = true then (laws_FnExactAddrJoin.j1 kj13 a1 t620 (t635 != t620) a0_0 l0_1 a0_2 a0_3 t614 t615 t618 t619 t629 t630 t633 t634) else (laws_FnExactAddrJoin.j1 kj13 a1 t620 true a0_0 l0_1 a0_2 a0_3 t614 t615 t618 t619 t629 t630 t633 t634))))) else (some false)) = some r:=H
      have A60:=Am A600
      clear A600
      by_cases c61:t644 = true
      ·subst c61
       have H1:((laws_markAddr.f kj13 t622 t623 t626 t627 1).bind fun bt645=>(if bt645.1 < 0 then (laws_FnExactAddrJoin.j1 kj13 a1 t620 true a0_0 l0_1 a0_2 a0_3 t614 t615 t618 t619 t629 t630 t633 t634) else ((laws_eqAddr.f kj13 t629 t630 t633 t634 t614 t615 t618 t619).bind fun t647=>(if t647 = true then (laws_FnExactAddrJoin.j1 kj13 a1 t620 (t635 != t620) a0_0 l0_1 a0_2 a0_3 t614 t615 t618 t619 t629 t630 t633 t634) else (laws_FnExactAddrJoin.j1 kj13 a1 t620 true a0_0 l0_1 a0_2 a0_3 t614 t615 t618 t619 t629 t630 t633 t634))))) = some r:=by rw [if_pos rfl] at H;exact H
       clear H
       have H:=H1
       clear H1
       replace H:=bI H
       obtain ⟨⟨t645,t646⟩,A620,H⟩:=H
       replace H:(if t645 < 0 then (laws_FnExactAddrJoin.j1 kj13 a1 t620 true a0_0 l0_1 a0_2 a0_3 t614 t615 t618 t619 t629 t630 t633 t634) else ((laws_eqAddr.f kj13 t629 t630 t633 t634 t614 t615 t618 t619).bind fun t647=>(if t647 = true then (laws_FnExactAddrJoin.j1 kj13 a1 t620 (t635 != t620) a0_0 l0_1 a0_2 a0_3 t614 t615 t618 t619 t629 t630 t633 t634) else (laws_FnExactAddrJoin.j1 kj13 a1 t620 true a0_0 l0_1 a0_2 a0_3 t614 t615 t618 t619 t629 t630 t633 t634)))) = some r:=H
       have A62:=Am A620
       clear A620
       have HC63:=Am H
       clear H
       try go_wp2
       have n0_:=Am (Kd.R_drew HO_622001.out)
       have n1_:=Am (Kd.R_drew HO_629001.out)
       have n2_:=Am (Kd.R_drew HO_637001.out)
       have n3_:=Am (blk_drew BK606.out)
       have n4_:=Am (blk_drew BK621.out)
       have n5_:=Am (blk_drew BK628.out)
       have n6_:=Am (blk_drew BK636.out)
       have n7_:=Am (below_drew1 HB.out)
       clear HO_622001
       clear HO_629001
       clear HO_637001
       clear BK606
       clear BK621
       clear BK628
       clear BK636
       clear HB
       have HO_622001:=n0_
       have HO_629001:=n1_
       have HO_637001:=n2_
       have BK606:=n3_
       have BK621:=n4_
       have BK628:=n5_
       have BK636:=n6_
       have HB:=n7_
       clear n0_ n1_ n2_ n3_ n4_ n5_ n6_ n7_
       refine start_ (n:=5) (S:=fun w'=>w'.cell? ⟨gb628,0,none⟩ = some (.string t622) ∧ w'.cell? ⟨gb628,1,none⟩ = some (.slice Ao32 t623.length co32) ∧ w'.cell? ⟨gb628,2,none⟩ = some (.bool t626) ∧ w'.cell? ⟨gb628,3,none⟩ = some (.string t627) ∧ w'.cell? ⟨gb606,0,none⟩ = some (.string a0_0) ∧ w'.cell? ⟨gb606,1,none⟩ = some (.slice A0_1 l0_1.length c0_1) ∧ w'.cell? ⟨gb606,2,none⟩ = some (.bool a0_2) ∧ w'.cell? ⟨gb606,3,none⟩ = some (.string a0_3)) (ds:=[]) #[false,false,false,false,false] (by kernel_rfl) rfl rfl ⟨bM BK628.out 0 rfl,bM BK628.out 1 rfl,bM BK628.out 2 rfl,bM BK628.out 3 rfl,bM BK606.out 0 rfl,bM BK606.out 1 rfl,bM BK606.out 2 rfl,bM BK606.out 3 rfl⟩ (fun hHeld=>?_)
       generalize wc.drew = w64 at HO_622001 HO_629001 HO_637001 BK606 BK621 BK628 BK636 HB hHeld ⊢
       refine take_ (i:=0) (N:=some 48) (v:=?_) (a':=?_) #[true,false,false,false,false] rfl rfl (by kernel_rfl) (fun _ _ _ h=>h) (Or.inl ⟨by rfl,?_⟩) hHeld ?_ ?_
       rotate_left
       ·rintro w' ⟨s0,s1,s2,s3,s4,s5,s6,s7⟩
        go_simp
        with_reducible rfl
       rotate_left
       ·simp only [Act.put,List.setIfInBounds_toArray,List.set_cons_zero,List.set_cons_succ,i64_w,i32_w]
        rfl
       refine take_ (i:=1) (N:=some 49) (v:=?_) (a':=?_) #[true,true,false,false,false] rfl rfl (by kernel_rfl) (fun _ _ _ h=>h) (Or.inl ⟨by rfl,?_⟩) hHeld ?_ ?_
       rotate_left
       ·rintro w' ⟨s0,s1,s2,s3,s4,s5,s6,s7⟩
        go_simp
        with_reducible rfl
       rotate_left
       ·simp only [Act.put,List.setIfInBounds_toArray,List.set_cons_zero,List.set_cons_succ,i64_w,i32_w]
        rfl
       refine one_ (i:=2) (N:=some 50) #[true,true,true,false,false] rfl rfl (by kernel_rfl) (by decide) (fun K hK=>?_)
       refine goes_ Tryd.func20 (by kernel_rfl) rfl #[.agg #[.string a0_0, .slice A0_1 l0_1.length c0_1, .bool a0_2, .string a0_3]] (by rfl) rfl rfl (by (try simp only [List.map_toArray,List.map_cons,List.map_nil]);first|done|rfl|(simp only [List.length_drop,List.length_take];rfl)) ?_
       with_reducible refine (laws_toAddr.calls kj13 a0_0 _ _ l0_1 a0_2 a0_3 t638 t639 t642 t643 _ ?side1 ?side2 A59.out).mono ?_
       (case side1=>repeat (first|exact (Kd.C_below HR0_1.out HB.out)|(with_reducible refine bC ?_)))
       (case side2=>exact HC0_1.out)
       rintro e w65 ⟨v640,rfl,ho0,hb⟩
       refine ⟨_,rfl,?_⟩
       have n0_:=Am (Kd.R_elder' (bR HO_622001.out) (Kd.R_base ho0) hb)
       have n1_:=Am (Kd.R_elder' (bR HO_629001.out) (Kd.R_base ho0) hb)
       have n2_:=Am (Kd.R_elder' (bR HO_637001.out) (Kd.R_base ho0) hb)
       have n3_:=Am (Kd.R_lower (Kd.R_new' (Kd.R_new' (Kd.R_new' ho0 (Kd.R_lt (bR HO_622001.out))) (Kd.R_lt (bR HO_629001.out))) (Kd.R_lt (bR HO_637001.out))) (bU (by repeat (first|(with_reducible first|exact HB.out|apply bA|apply bN|apply bD|refine bS ?_ GE606.out|refine bS ?_ GE621.out|refine bS ?_ GE628.out|refine bS ?_ GE636.out)|exact HB.out))))
       have n4_:=Am (blk_below (bB BK606.out) hb)
       have n5_:=Am (blk_below (bB BK621.out) hb)
       have n6_:=Am (blk_below (bB BK628.out) hb)
       have n7_:=Am (blk_below (bB BK636.out) hb)
       have n8_:=Am (bT (by repeat (first|(with_reducible first|exact HB.out|apply bA|apply bN|apply bD|refine bS ?_ GE606.out|refine bS ?_ GE621.out|refine bS ?_ GE628.out|refine bS ?_ GE636.out)|exact HB.out)) hb)
       clear HO_622001
       clear HO_629001
       clear HO_637001
       clear BK606
       clear BK621
       clear BK628
       clear BK636
       clear HB
       have HO_622001:=n0_
       have HO_629001:=n1_
       have HO_637001:=n2_
       have HO641:=n3_
       have BK606:=n4_
       have BK621:=n5_
       have BK628:=n6_
       have BK636:=n7_
       have HB:=n8_
       clear n0_ n1_ n2_ n3_ n4_ n5_ n6_ n7_ n8_
       (try clear hb)
       (try clear hb2)
       (try clear hk)
       (try clear hi)
       (try clear ho0)
       obtain ⟨Ao66,co66,eo66⟩:=Kd.R_slice HO641.out
       (first|subst eo66|(injection eo66 with f1_ f2_ f3_;have f4_:=f1_.symm;have f5_:=f3_.symm;clear f1_ f2_ f3_;subst f4_;subst f5_))
       refine hK.out _ _ ⟨bM BK628.out 0 rfl,bM BK628.out 1 rfl,bM BK628.out 2 rfl,bM BK628.out 3 rfl,bM BK606.out 0 rfl,bM BK606.out 1 rfl,bM BK606.out 2 rfl,bM BK606.out 3 rfl⟩ (fun hHeld=>?_)
       clear hK K
       refine norm_ (a':=?_) ?_ ?_
       rotate_left
       ·show Act.put _ (some 50) _ = _
        simp only [Act.put,List.setIfInBounds_toArray,List.set_cons_zero,List.set_cons_succ,i64_w,i32_w]
        rfl
       refine one_ (i:=3) (N:=some 51) #[true,true,true,true,false] rfl rfl (by kernel_rfl) (by decide) (fun K hK=>?_)
       refine goes_ Tryd.func21 (by kernel_rfl) rfl #[.agg #[.string t622, .slice Ao32 t623.length co32, .bool t626, .string t627], .agg #[.string t638, .slice Ao66 t639.length co66, .bool t642, .string t643]] (by rfl) rfl rfl (by (try simp only [List.map_toArray,List.map_cons,List.map_nil]);first|done|rfl|(simp only [List.length_drop,List.length_take];rfl)) ?_
       with_reducible refine (laws_eqAddr.calls kj13 t622 _ _ t623 t626 t627 t638 _ _ t639 t642 t643 true _ ?side1 ?side2 ?side3 ?side4 A60.out).mono ?_
       (case side1=>repeat (first|exact (Kd.R_reads' HO_629001.out).2.2|(with_reducible refine bC ?_)))
       (case side2=>exact (Kd.R_reads' HO_629001.out).2.1)
       (case side3=>repeat (first|exact (Kd.R_reads' HO641.out).2.2|(with_reducible refine bC ?_)))
       (case side4=>exact (Kd.R_reads' HO641.out).2.1)
       rintro e w67 ⟨rfl,hb⟩
       refine ⟨_,rfl,?_⟩
       have n0_:=Am (Kd.R_below (bR HO_622001.out) hb)
       have n1_:=Am (Kd.R_below (bR HO_629001.out) hb)
       have n2_:=Am (Kd.R_below (bR HO_637001.out) hb)
       have n3_:=Am (Kd.R_below (bR HO641.out) hb)
       have n4_:=Am (blk_below (bB BK606.out) hb)
       have n5_:=Am (blk_below (bB BK621.out) hb)
       have n6_:=Am (blk_below (bB BK628.out) hb)
       have n7_:=Am (blk_below (bB BK636.out) hb)
       have n8_:=Am (bT (by repeat (first|(with_reducible first|exact HB.out|apply bA|apply bN|apply bD|refine bS ?_ GE606.out|refine bS ?_ GE621.out|refine bS ?_ GE628.out|refine bS ?_ GE636.out)|exact HB.out)) hb)
       clear HO_622001
       clear HO_629001
       clear HO_637001
       clear HO641
       clear BK606
       clear BK621
       clear BK628
       clear BK636
       clear HB
       have HO_622001:=n0_
       have HO_629001:=n1_
       have HO_637001:=n2_
       have HO641:=n3_
       have BK606:=n4_
       have BK621:=n5_
       have BK628:=n6_
       have BK636:=n7_
       have HB:=n8_
       clear n0_ n1_ n2_ n3_ n4_ n5_ n6_ n7_ n8_
       (try clear hb)
       (try clear hb2)
       (try clear hk)
       (try clear hi)
       refine hK.out _ _ ⟨bM BK628.out 0 rfl,bM BK628.out 1 rfl,bM BK628.out 2 rfl,bM BK628.out 3 rfl,bM BK606.out 0 rfl,bM BK606.out 1 rfl,bM BK606.out 2 rfl,bM BK606.out 3 rfl⟩ (fun hHeld=>?_)
       clear hK K
       refine norm_ (a':=?_) ?_ ?_
       rotate_left
       ·show Act.put _ (some 51) _ = _
        simp only [Act.put,List.setIfInBounds_toArray,List.set_cons_zero,List.set_cons_succ,i64_w,i32_w]
        rfl
       refine pure_ (i:=4) (N:=some 52) (v:=?_) (a':=?_) #[true,true,true,true,true] rfl rfl (by kernel_rfl) (fun _ _ _ h=>h) (Or.inl ⟨by rfl,?_⟩) ?_ ?_
       rotate_left
       ·intro w'
        go_simp
        with_reducible rfl
       rotate_left
       ·simp only [Act.put,List.setIfInBounds_toArray,List.set_cons_zero,List.set_cons_succ,i64_w,i32_w]
        rfl
       refine done_ (by kernel_rfl) ?_
       have hnb68:=NB628_606.out
       have hnc68:=NB606_628.out
       have hnb69:=NB628_621.out
       have hnc69:=NB621_628.out
       have hnb70:=NB628_636.out
       have hnc70:=NB636_628.out
       have hcz71_0:w67.cell? ⟨gb628,0,none⟩ = some (.string t622):=bM BK628.out 0 rfl
       have hcz71_1:w67.cell? ⟨gb628,1,none⟩ = some (.slice Ao32 t623.length co32):=bM BK628.out 1 rfl
       have hcz71_2:w67.cell? ⟨gb628,2,none⟩ = some (.bool t626):=bM BK628.out 2 rfl
       have hcz71_3:w67.cell? ⟨gb628,3,none⟩ = some (.string t627):=bM BK628.out 3 rfl
       have hfz71_0:=bZ BK628.out 0
       have hfz71_1:=bZ BK628.out 1
       have hfz71_2:=bZ BK628.out 2
       have hfz71_3:=bZ BK628.out 3
       go_upto_region 16 with (first|((with_reducible refine gate_callee (f:=22) rfl ?_);refine goesL_ (some 55) rfl rfl Tryd.func22 (by kernel_rfl) rfl #[.agg #[.string t622, .slice Ao32 t623.length co32, .bool t626, .string t627], .int .i64 1] rfl (aE2 rfl rfl) ?_;(with_reducible refine (laws_markAddr.calls kj13 t622 (fun k_=>some k_ = (.slice Ao32 t623.length co32:Value).ownBlock) (.slice Ao32 t623.length co32) t623 t626 t627 1 t645 t646 w _ ?side1 ?side2 A62.out).mono ?_);(case side1=>repeat (first|(with_reducible first|exact HB.out|apply bA|apply bN|apply bD|refine bS ?_ GE606.out|refine bS ?_ GE621.out|refine bS ?_ GE628.out|refine bS ?_ GE636.out)|exact HB.out));(case side2=>exact Kd.R_tight rfl HO_629001.out);rintro e w72 ⟨rfl,hy0,hb,hkp⟩;refine ⟨_,rfl,?_⟩;have n0_:=Am (Kd.R_mono (ok':=fun k_=>some k_ ≠ (.slice Ao32 t623.length co32:Value).ownBlock ∧ some k_ ≠ (.slice Ao39 t630.length co39:Value).ownBlock ∧ some k_ ≠ (.slice Ao66 t639.length co66:Value).ownBlock) (Kd.R_keptB (HO_622001.out) hkp (fun k_ hk_ hs_=>(hk_.1.1) hs_)) (fun k_ hk_=>⟨hk_.1.1.1,hk_.1.1.2,hk_.1.2⟩));have n1_:=Am (Kd.R_reok rfl hy0 (fun k_ e_=>HO_629001.out.1 k_ e_));have n2_:=Am (Kd.R_mono (ok':=fun k_=>some k_ ≠ (.slice Ao25 t615.length co25:Value).ownBlock ∧ some k_ ≠ (.slice Ao32 t623.length co32:Value).ownBlock ∧ some k_ ≠ (.slice Ao66 t639.length co66:Value).ownBlock) (Kd.R_keptB (HO_637001.out) hkp (fun k_ hk_ hs_=>(hk_.1.2) hs_)) (fun k_ hk_=>⟨hk_.1.1.1,hk_.1.1.2,hk_.1.2⟩));have n3_:=Am (blk_kept (bB BK606.out) hkp (fun hs_=>(fun e_=>(Kd.R_ne HO_629001.out BK606.out (by decide)) e_) hs_));have n4_:=Am (blk_kept (bB BK621.out) hkp (fun hs_=>(fun e_=>(Kd.R_ne HO_629001.out BK621.out (by decide)) e_) hs_));have n5_:=Am (blk_kept (bB BK628.out) hkp (fun hs_=>(fun e_=>(Kd.R_ne HO_629001.out BK628.out (by decide)) e_) hs_));have n6_:=Am (blk_kept (bB BK636.out) hkp (fun hs_=>(fun e_=>(Kd.R_ne HO_629001.out BK636.out (by decide)) e_) hs_));have n7_:=Am (Kd.R_mono (ok':=fun k_=>some k_ ≠ (.slice Ao25 t615.length co25:Value).ownBlock ∧ some k_ ≠ (.slice Ao32 t623.length co32:Value).ownBlock ∧ some k_ ≠ (.slice Ao39 t630.length co39:Value).ownBlock) (Kd.R_keptB (HO641.out) hkp (fun k_ hk_ hs_=>(hk_.1.2) hs_)) (fun k_ hk_=>⟨hk_.1.1.1.2,hk_.1.1.2,hk_.1.2⟩));have n8_:=Am (hb);clear HO_622001 HO_629001 HO_637001 BK606 BK621 BK628 BK636 HO641 HB;have HO_622001:=n0_;have HO_629001:=n1_;have HO_637001:=n2_;have BK606:=n3_;have BK621:=n4_;have BK628:=n5_;have BK636:=n6_;have HO641:=n7_;have HB:=n8_;clear n0_ n1_ n2_ n3_ n4_ n5_ n6_ n7_ n8_;(try clear hb);(try clear hkp);(try clear hy0)))
       (try simp only [Act.put,List.setIfInBounds_toArray,List.set_cons_zero,List.set_cons_succ])
       go_cut [68] (fun v68 wc=>∃ (kq:Nat) (x68_62:Bool),v68 = .bool x68_62 ∧ Aside0 (laws_FnExactAddrJoin.j1 kq a1 t620 x68_62 a0_0 l0_1 a0_2 a0_3 t614 t615 t618 t619 t629 t630 t633 t634 = some r) ∧ Aside0 (kq ≤ kj13) ∧ Aside0 (Kd.R Kd.string 9 wc w.heap.size (fun k_=>some k_ ≠ ((.slice Ao32 t623.length co32):Value).ownBlock ∧ some k_ ≠ ((.slice Ao39 t630.length co39):Value).ownBlock) (.slice Ao25 t615.length co25) t615) ∧ Aside0 (Kd.R Kd.string 9 wc w.heap.size (fun k_=>some k_ ≠ ((.slice Ao25 t615.length co25):Value).ownBlock ∧ some k_ ≠ ((.slice Ao39 t630.length co39):Value).ownBlock) (.slice Ao32 t623.length co32) t646) ∧ Aside0 (Kd.R Kd.string 9 wc w.heap.size (fun k_=>some k_ ≠ ((.slice Ao25 t615.length co25):Value).ownBlock ∧ some k_ ≠ ((.slice Ao32 t623.length co32):Value).ownBlock) (.slice Ao39 t630.length co39) t630) ∧ Aside0 (wc.heap[gb606]? = some (.cells #[.string a0_0,(.slice A0_1 l0_1.length c0_1), .bool a0_2, .string a0_3] 36 (0,0))) ∧ Aside0 (wc.heap[gb621]? = some (.cells #[.string t614,(.slice Ao25 t615.length co25), .bool t618, .string t619] 25 (0,0))) ∧ Aside0 (wc.heap[gb628]? = some (.cells #[.string t622,(.slice Ao32 t623.length co32), .bool t626, .string t627] 25 (0,0))) ∧ Aside0 (wc.heap[gb636]? = some (.cells #[.string t629,(.slice Ao39 t630.length co39), .bool t633, .string t634] 25 (0,0))) ∧ Aside0 (Below w.heap.size w wc))
       case first =>
        have H:=HC63.out
        clear HC63
        by_cases c73:t645 < 0
        ·rw [if_pos c73] at H
         have c73b0:decide (t645 < 0) = true:=decide_eq_true c73
         clear c73
         (first|rw [c73b0]|(simp only [i64_w,i32_w];rw [c73b0])|skip)
         have H':=Am H
         clear H
         go_wp2
         go_meet
         case rel=>exact ⟨_,(true),(by first|rfl|(simp;done)|(simp only [i64_w,i32_w] <;> rfl)|(simp [*];done)|(simp [emp_bne,emp_beq];done)),H',⟨by have:=HJ13.out;first|omega|exact Nat.le_refl _⟩,⟨by (with_reducible repeat (first|apply rA|apply rN|apply rD));exact Kd.R_mono HO_622001.out (fun _ hk=>⟨hk.1,hk.2.1⟩)⟩,⟨by (with_reducible repeat (first|apply rA|apply rN|apply rD));exact Kd.R_mono HO_629001.out (fun _ hk=>⟨hk.1.1,hk.1.2⟩)⟩,⟨by (with_reducible repeat (first|apply rA|apply rN|apply rD));exact Kd.R_mono HO_637001.out (fun _ hk=>⟨hk.1,hk.2.1⟩)⟩,⟨by refine bB ?_;exact BK606.out⟩,⟨by refine bB ?_;exact BK621.out⟩,⟨by refine bB ?_;exact BK628.out⟩,⟨by refine bB ?_;exact BK636.out⟩,⟨by repeat (first|(with_reducible first|exact HB.out|apply bA|apply bN|apply bD|refine bS ?_ GE606.out|refine bS ?_ GE621.out|refine bS ?_ GE628.out|refine bS ?_ GE636.out)|exact HB.out)⟩⟩
        ·rw [if_neg c73] at H
         have c73b0:decide (t645 < 0) = false:=decide_eq_false c73
         clear c73
         (first|rw [c73b0]|(simp only [i64_w,i32_w];rw [c73b0])|skip)
         replace H:=bI H
         obtain ⟨t647,A740,H⟩:=H
         replace H:(if t647 = true then (laws_FnExactAddrJoin.j1 kj13 a1 t620 (t635 != t620) a0_0 l0_1 a0_2 a0_3 t614 t615 t618 t619 t629 t630 t633 t634) else (laws_FnExactAddrJoin.j1 kj13 a1 t620 true a0_0 l0_1 a0_2 a0_3 t614 t615 t618 t619 t629 t630 t633 t634)) = some r:=H
         have A74:=Am A740
         clear A740
         by_cases c75:t647 = true
         ·subst c75
          have H1:(laws_FnExactAddrJoin.j1 kj13 a1 t620 (t635 != t620) a0_0 l0_1 a0_2 a0_3 t614 t615 t618 t619 t629 t630 t633 t634) = some r:=by rw [if_pos rfl] at H;exact H
          clear H
          have H:=H1
          clear H1
          have H':=Am H
          clear H
          have hnb76:=NB636_606.out
          have hnc76:=NB606_636.out
          have hnb77:=NB636_621.out
          have hnc77:=NB621_636.out
          have hnb78:=NB636_628.out
          have hnc78:=NB628_636.out
          have hcz79_0:w72.cell? ⟨gb636,0,none⟩ = some (.string t629):=bM BK636.out 0 rfl
          have hcz79_1:w72.cell? ⟨gb636,1,none⟩ = some (.slice Ao39 t630.length co39):=bM BK636.out 1 rfl
          have hcz79_2:w72.cell? ⟨gb636,2,none⟩ = some (.bool t633):=bM BK636.out 2 rfl
          have hcz79_3:w72.cell? ⟨gb636,3,none⟩ = some (.string t634):=bM BK636.out 3 rfl
          have hfz79_0:=bZ BK636.out 0
          have hfz79_1:=bZ BK636.out 1
          have hfz79_2:=bZ BK636.out 2
          have hfz79_3:=bZ BK636.out 3
          have hnb80:=NB621_606.out
          have hnc80:=NB606_621.out
          have hnb81:=NB621_628.out
          have hnc81:=NB628_621.out
          have hcz82_0:w72.cell? ⟨gb621,0,none⟩ = some (.string t614):=bM BK621.out 0 rfl
          have hcz82_1:w72.cell? ⟨gb621,1,none⟩ = some (.slice Ao25 t615.length co25):=bM BK621.out 1 rfl
          have hcz82_2:w72.cell? ⟨gb621,2,none⟩ = some (.bool t618):=bM BK621.out 2 rfl
          have hcz82_3:w72.cell? ⟨gb621,3,none⟩ = some (.string t619):=bM BK621.out 3 rfl
          have hfz82_0:=bZ BK621.out 0
          have hfz82_1:=bZ BK621.out 1
          have hfz82_2:=bZ BK621.out 2
          have hfz82_3:=bZ BK621.out 3
          go_wp2_with (first|(go_at_call 21;(with_reducible refine (laws_eqAddr.calls kj13 t629 _ _ t630 t633 t634 t614 _ _ t615 t618 t619 true _ ?side1 ?side2 ?side3 ?side4 A74.out).mono ?_);(case side1=>repeat (first|exact (Kd.R_reads' HO_637001.out).2.2|(with_reducible refine bC ?_)));(case side2=>exact (Kd.R_reads' HO_637001.out).2.1);(case side3=>repeat (first|exact (Kd.R_reads' HO_622001.out).2.2|(with_reducible refine bC ?_)));(case side4=>exact (Kd.R_reads' HO_622001.out).2.1);rintro e w83 ⟨rfl,hb⟩;have n0_:=Am (Kd.R_below (bR HO_622001.out) hb);have n1_:=Am (Kd.R_below (bR HO_629001.out) hb);have n2_:=Am (Kd.R_below (bR HO_637001.out) hb);have n3_:=Am (Kd.R_below (bR HO641.out) hb);have n4_:=Am (blk_below (bB BK606.out) hb);have n5_:=Am (blk_below (bB BK621.out) hb);have n6_:=Am (blk_below (bB BK628.out) hb);have n7_:=Am (blk_below (bB BK636.out) hb);have n8_:=Am (bT (by repeat (first|(with_reducible first|exact HB.out|apply bA|apply bN|apply bD|refine bS ?_ GE606.out|refine bS ?_ GE621.out|refine bS ?_ GE628.out|refine bS ?_ GE636.out)|exact HB.out)) hb);clear HO_622001 HO_629001 HO_637001 HO641 BK606 BK621 BK628 BK636 HB;have HO_622001:=n0_;have HO_629001:=n1_;have HO_637001:=n2_;have HO641:=n3_;have BK606:=n4_;have BK621:=n5_;have BK628:=n6_;have BK636:=n7_;have HB:=n8_;clear n0_ n1_ n2_ n3_ n4_ n5_ n6_ n7_ n8_;(try clear hb)))
          go_meet
          case rel=>exact ⟨_,((t635 != t620)),(by first|rfl|(simp;done)|(simp only [i64_w,i32_w] <;> rfl)|(simp [*];done)|(simp [emp_bne,emp_beq];done)),H',⟨by have:=HJ13.out;first|omega|exact Nat.le_refl _⟩,⟨by (with_reducible repeat (first|apply rA|apply rN|apply rD));exact Kd.R_mono HO_622001.out (fun _ hk=>⟨hk.1,hk.2.1⟩)⟩,⟨by (with_reducible repeat (first|apply rA|apply rN|apply rD));exact Kd.R_mono HO_629001.out (fun _ hk=>⟨hk.1.1,hk.1.2⟩)⟩,⟨by (with_reducible repeat (first|apply rA|apply rN|apply rD));exact Kd.R_mono HO_637001.out (fun _ hk=>⟨hk.1,hk.2.1⟩)⟩,⟨by refine bB ?_;exact BK606.out⟩,⟨by refine bB ?_;exact BK621.out⟩,⟨by refine bB ?_;exact BK628.out⟩,⟨by refine bB ?_;exact BK636.out⟩,⟨by repeat (first|(with_reducible first|exact HB.out|apply bA|apply bN|apply bD|refine bS ?_ GE606.out|refine bS ?_ GE621.out|refine bS ?_ GE628.out|refine bS ?_ GE636.out)|exact HB.out)⟩⟩
         ·replace c75:=Bool.eq_false_iff.mpr c75
          subst c75
          have H1:(laws_FnExactAddrJoin.j1 kj13 a1 t620 true a0_0 l0_1 a0_2 a0_3 t614 t615 t618 t619 t629 t630 t633 t634) = some r:=by rw [if_neg (show ¬ (false = true) by decide)] at H;exact H
          clear H
          have H:=H1
          clear H1
          have H':=Am H
          clear H
          have hnb84:=NB636_606.out
          have hnc84:=NB606_636.out
          have hnb85:=NB636_621.out
          have hnc85:=NB621_636.out
          have hnb86:=NB636_628.out
          have hnc86:=NB628_636.out
          have hcz87_0:w72.cell? ⟨gb636,0,none⟩ = some (.string t629):=bM BK636.out 0 rfl
          have hcz87_1:w72.cell? ⟨gb636,1,none⟩ = some (.slice Ao39 t630.length co39):=bM BK636.out 1 rfl
          have hcz87_2:w72.cell? ⟨gb636,2,none⟩ = some (.bool t633):=bM BK636.out 2 rfl
          have hcz87_3:w72.cell? ⟨gb636,3,none⟩ = some (.string t634):=bM BK636.out 3 rfl
          have hfz87_0:=bZ BK636.out 0
          have hfz87_1:=bZ BK636.out 1
          have hfz87_2:=bZ BK636.out 2
          have hfz87_3:=bZ BK636.out 3
          have hnb88:=NB621_606.out
          have hnc88:=NB606_621.out
          have hnb89:=NB621_628.out
          have hnc89:=NB628_621.out
          have hcz90_0:w72.cell? ⟨gb621,0,none⟩ = some (.string t614):=bM BK621.out 0 rfl
          have hcz90_1:w72.cell? ⟨gb621,1,none⟩ = some (.slice Ao25 t615.length co25):=bM BK621.out 1 rfl
          have hcz90_2:w72.cell? ⟨gb621,2,none⟩ = some (.bool t618):=bM BK621.out 2 rfl
          have hcz90_3:w72.cell? ⟨gb621,3,none⟩ = some (.string t619):=bM BK621.out 3 rfl
          have hfz90_0:=bZ BK621.out 0
          have hfz90_1:=bZ BK621.out 1
          have hfz90_2:=bZ BK621.out 2
          have hfz90_3:=bZ BK621.out 3
          go_wp2_with (first|(go_at_call 21;(with_reducible refine (laws_eqAddr.calls kj13 t629 _ _ t630 t633 t634 t614 _ _ t615 t618 t619 false _ ?side1 ?side2 ?side3 ?side4 A74.out).mono ?_);(case side1=>repeat (first|exact (Kd.R_reads' HO_637001.out).2.2|(with_reducible refine bC ?_)));(case side2=>exact (Kd.R_reads' HO_637001.out).2.1);(case side3=>repeat (first|exact (Kd.R_reads' HO_622001.out).2.2|(with_reducible refine bC ?_)));(case side4=>exact (Kd.R_reads' HO_622001.out).2.1);rintro e w91 ⟨rfl,hb⟩;have n0_:=Am (Kd.R_below (bR HO_622001.out) hb);have n1_:=Am (Kd.R_below (bR HO_629001.out) hb);have n2_:=Am (Kd.R_below (bR HO_637001.out) hb);have n3_:=Am (Kd.R_below (bR HO641.out) hb);have n4_:=Am (blk_below (bB BK606.out) hb);have n5_:=Am (blk_below (bB BK621.out) hb);have n6_:=Am (blk_below (bB BK628.out) hb);have n7_:=Am (blk_below (bB BK636.out) hb);have n8_:=Am (bT (by repeat (first|(with_reducible first|exact HB.out|apply bA|apply bN|apply bD|refine bS ?_ GE606.out|refine bS ?_ GE621.out|refine bS ?_ GE628.out|refine bS ?_ GE636.out)|exact HB.out)) hb);clear HO_622001 HO_629001 HO_637001 HO641 BK606 BK621 BK628 BK636 HB;have HO_622001:=n0_;have HO_629001:=n1_;have HO_637001:=n2_;have HO641:=n3_;have BK606:=n4_;have BK621:=n5_;have BK628:=n6_;have BK636:=n7_;have HB:=n8_;clear n0_ n1_ n2_ n3_ n4_ n5_ n6_ n7_ n8_;(try clear hb)))
          go_meet
          case rel=>exact ⟨_,(true),(by first|rfl|(simp;done)|(simp only [i64_w,i32_w] <;> rfl)|(simp [*];done)|(simp [emp_bne,emp_beq];done)),H',⟨by have:=HJ13.out;first|omega|exact Nat.le_refl _⟩,⟨by (with_reducible repeat (first|apply rA|apply rN|apply rD));exact Kd.R_mono HO_622001.out (fun _ hk=>⟨hk.1,hk.2.1⟩)⟩,⟨by (with_reducible repeat (first|apply rA|apply rN|apply rD));exact Kd.R_mono HO_629001.out (fun _ hk=>⟨hk.1.1,hk.1.2⟩)⟩,⟨by (with_reducible repeat (first|apply rA|apply rN|apply rD));exact Kd.R_mono HO_637001.out (fun _ hk=>⟨hk.1,hk.2.1⟩)⟩,⟨by refine bB ?_;exact BK606.out⟩,⟨by refine bB ?_;exact BK621.out⟩,⟨by refine bB ?_;exact BK628.out⟩,⟨by refine bB ?_;exact BK636.out⟩,⟨by repeat (first|(with_reducible first|exact HB.out|apply bA|apply bN|apply bD|refine bS ?_ GE606.out|refine bS ?_ GE621.out|refine bS ?_ GE628.out|refine bS ?_ GE636.out)|exact HB.out)⟩⟩
       case rest =>
        clear HC63
        try clear c1
        try clear c2
        try clear p2
        try clear c3
        try clear c3b0
        try clear c3b1
        try clear c4
        try clear c5
        try clear c6
        try clear c6b0
        try clear c7
        try clear c8
        try clear c12
        try clear c13
        try clear c19
        try clear c20
        try clear c21
        try clear c22
        try clear c23
        try clear c29
        try clear c30
        try clear c35
        try clear c36
        try clear c37
        try clear c41
        try clear c42
        try clear c43
        try clear c44
        try clear c46
        try clear c47
        try clear c50
        try clear c51
        try clear c52
        try clear c54
        try clear c55
        try clear c58
        try clear c61
        try clear c68
        try clear c69
        try clear c70
        try clear c73
        try clear c73b0
        try clear c75
        try clear c76
        try clear c77
        try clear c78
        try clear c80
        try clear c81
        try clear c84
        try clear c85
        try clear c86
        try clear c88
        try clear c89
        try clear hcz16_0
        try clear hcz16_1
        try clear hcz16_2
        try clear hcz16_3
        try clear hcz18_0
        try clear hcz18_1
        try clear hcz18_2
        try clear hcz18_3
        try clear hcz24_0
        try clear hcz24_1
        try clear hcz24_2
        try clear hcz24_3
        try clear hcz26_0
        try clear hcz26_1
        try clear hcz26_2
        try clear hcz26_3
        try clear hcz31_0
        try clear hcz31_1
        try clear hcz31_2
        try clear hcz31_3
        try clear hcz38_0
        try clear hcz38_1
        try clear hcz38_2
        try clear hcz38_3
        try clear hcz45_0
        try clear hcz45_1
        try clear hcz45_2
        try clear hcz45_3
        try clear hcz48_0
        try clear hcz48_1
        try clear hcz48_2
        try clear hcz48_3
        try clear hcz53_0
        try clear hcz53_1
        try clear hcz53_2
        try clear hcz53_3
        try clear hcz56_0
        try clear hcz56_1
        try clear hcz56_2
        try clear hcz56_3
        try clear hcz71_0
        try clear hcz71_1
        try clear hcz71_2
        try clear hcz71_3
        try clear hcz79_0
        try clear hcz79_1
        try clear hcz79_2
        try clear hcz79_3
        try clear hcz82_0
        try clear hcz82_1
        try clear hcz82_2
        try clear hcz82_3
        try clear hcz87_0
        try clear hcz87_1
        try clear hcz87_2
        try clear hcz87_3
        try clear hcz8_0
        try clear hcz8_1
        try clear hcz8_2
        try clear hcz8_3
        try clear hcz90_0
        try clear hcz90_1
        try clear hcz90_2
        try clear hcz90_3
        try clear hfz16_0
        try clear hfz16_1
        try clear hfz16_2
        try clear hfz16_3
        try clear hfz18_0
        try clear hfz18_1
        try clear hfz18_2
        try clear hfz18_3
        try clear hfz24_0
        try clear hfz24_1
        try clear hfz24_2
        try clear hfz24_3
        try clear hfz26_0
        try clear hfz26_1
        try clear hfz26_2
        try clear hfz26_3
        try clear hfz31_0
        try clear hfz31_1
        try clear hfz31_2
        try clear hfz31_3
        try clear hfz38_0
        try clear hfz38_1
        try clear hfz38_2
        try clear hfz38_3
        try clear hfz45_0
        try clear hfz45_1
        try clear hfz45_2
        try clear hfz45_3
        try clear hfz48_0
        try clear hfz48_1
        try clear hfz48_2
        try clear hfz48_3
        try clear hfz53_0
        try clear hfz53_1
        try clear hfz53_2
        try clear hfz53_3
        try clear hfz56_0
        try clear hfz56_1
        try clear hfz56_2
        try clear hfz56_3
        try clear hfz71_0
        try clear hfz71_1
        try clear hfz71_2
        try clear hfz71_3
        try clear hfz79_0
        try clear hfz79_1
        try clear hfz79_2
        try clear hfz79_3
        try clear hfz82_0
        try clear hfz82_1
        try clear hfz82_2
        try clear hfz82_3
        try clear hfz87_0
        try clear hfz87_1
        try clear hfz87_2
        try clear hfz87_3
        try clear hfz8_0
        try clear hfz8_1
        try clear hfz8_2
        try clear hfz8_3
        try clear hfz90_0
        try clear hfz90_1
        try clear hfz90_2
        try clear hfz90_3
        try clear p2
        obtain ⟨kq,x68_62,rfl,HA,HJ62,HO_622001,HO_629001,HO_637001,BK606,BK621,BK628,BK636,HB⟩:=hcut
        have hl629001_62:=(Kd.R_reads' HO_629001.out).1
        rw [hl629001_62] at HO_629001
        (try simp only [hl629001_62])
        (try simp only [hl629001_62] at BK606)
        (try simp only [hl629001_62] at BK621)
        (try simp only [hl629001_62] at BK628)
        (try simp only [hl629001_62] at BK636)
        (try simp only [hl629001_62] at HO_622001)
        (try simp only [hl629001_62] at HO_637001)
        cases kq with
        | zero=>exact absurd HA.out (by simp [laws_FnExactAddrJoin.j1])
        | succ kj62 =>
         have H:=HA.out
         clear HA
         simp only [laws_FnExactAddrJoin.j1] at H
         by_cases c92:x68_62 = true
         ·subst c92
          have H1:(some false) = some r:=by rw [if_pos rfl] at H;exact H
          clear H
          have H:=H1
          clear H1
          obtain rfl:=Option.some.inj H
          go_wp2
          go_ret
          exact ⟨by first|rfl|(simp <;> rfl)|(simp [*] <;> rfl),by repeat (first|(with_reducible first|exact HB.out|apply bA|apply bN|apply bD|refine bS ?_ GE606.out|refine bS ?_ GE621.out|refine bS ?_ GE628.out|refine bS ?_ GE636.out)|exact HB.out)⟩
         ·replace c92:=Bool.eq_false_iff.mpr c92
          subst c92
          have H1:((laws_markAddr.f kj62 t629 t630 t633 t634 1).bind fun bt648=>((laws_heldAddr.f kj62 t629 bt648.2 t633 t634 1).bind fun t650=>(if t650 < 0 then (some false) else (if t650 = bt648.1 then ((laws_toAddr.f kj62 a0_0 l0_1 a0_2 a0_3).bind fun bt651=>((impl_AddrJoin.f kj62 bt651.1 bt651.2.1 bt651.2.2.1 bt651.2.2.2 a1).bind fun bt657=>((laws_eqAddr.f kj62 bt657.1 bt657.2.1 bt657.2.2.1 bt657.2.2.2.1 t614 t615 t618 t619).bind fun t665=>(if t665 = true then (laws_FnExactAddrJoin.j2 kj62 bt648.1 (bt657.2.2.2.2 != t620) t629 bt648.2 t633 t634) else (laws_FnExactAddrJoin.j2 kj62 bt648.1 true t629 bt648.2 t633 t634))))) else (some false))))) = some r:=by rw [if_neg (show ¬ (false = true) by decide)] at H;exact H
          clear H
          have H:=H1
          clear H1
          replace H:=bI H
          obtain ⟨⟨t648,t649⟩,A930,H⟩:=H
          replace H:((laws_heldAddr.f kj62 t629 t649 t633 t634 1).bind fun t650=>(if t650 < 0 then (some false) else (if t650 = t648 then ((laws_toAddr.f kj62 a0_0 l0_1 a0_2 a0_3).bind fun bt651=>((impl_AddrJoin.f kj62 bt651.1 bt651.2.1 bt651.2.2.1 bt651.2.2.2 a1).bind fun bt657=>((laws_eqAddr.f kj62 bt657.1 bt657.2.1 bt657.2.2.1 bt657.2.2.2.1 t614 t615 t618 t619).bind fun t665=>(if t665 = true then (laws_FnExactAddrJoin.j2 kj62 t648 (bt657.2.2.2.2 != t620) t629 t649 t633 t634) else (laws_FnExactAddrJoin.j2 kj62 t648 true t629 t649 t633 t634))))) else (some false)))) = some r:=H
          have A93:=Am A930
          clear A930
          replace H:=bI H
          obtain ⟨t650,A940,H⟩:=H
          replace H:(if t650 < 0 then (some false) else (if t650 = t648 then ((laws_toAddr.f kj62 a0_0 l0_1 a0_2 a0_3).bind fun bt651=>((impl_AddrJoin.f kj62 bt651.1 bt651.2.1 bt651.2.2.1 bt651.2.2.2 a1).bind fun bt657=>((laws_eqAddr.f kj62 bt657.1 bt657.2.1 bt657.2.2.1 bt657.2.2.2.1 t614 t615 t618 t619).bind fun t665=>(if t665 = true then (laws_FnExactAddrJoin.j2 kj62 t648 (bt657.2.2.2.2 != t620) t629 t649 t633 t634) else (laws_FnExactAddrJoin.j2 kj62 t648 true t629 t649 t633 t634))))) else (some false))) = some r:=H
          have A94:=Am A940
          clear A940
          by_cases c95:t650 < 0
          ·rw [if_pos c95] at H
           have c95b0:decide (t650 < 0) = true:=decide_eq_true c95
           clear c95
           obtain rfl:=Option.some.inj H
           have hnb96:=NB636_606.out
           have hnc96:=NB606_636.out
           have hnb97:=NB636_621.out
           have hnc97:=NB621_636.out
           have hnb98:=NB636_628.out
           have hnc98:=NB628_636.out
           have hcz99_0:wc.cell? ⟨gb636,0,none⟩ = some (.string t629):=bM BK636.out 0 rfl
           have hcz99_1:wc.cell? ⟨gb636,1,none⟩ = some (.slice Ao39 t630.length co39):=bM BK636.out 1 rfl
           have hcz99_2:wc.cell? ⟨gb636,2,none⟩ = some (.bool t633):=bM BK636.out 2 rfl
           have hcz99_3:wc.cell? ⟨gb636,3,none⟩ = some (.string t634):=bM BK636.out 3 rfl
           have hfz99_0:=bZ BK636.out 0
           have hfz99_1:=bZ BK636.out 1
           have hfz99_2:=bZ BK636.out 2
           have hfz99_3:=bZ BK636.out 3
           go_wp2_with (first|((with_reducible refine gate_callee (f:=22) rfl ?_);refine goesL_ (some 71) rfl rfl Tryd.func22 (by kernel_rfl) rfl #[.agg #[.string t629, .slice Ao39 t630.length co39, .bool t633, .string t634], .int .i64 1] rfl (aE2 rfl rfl) ?_;(with_reducible refine (laws_markAddr.calls kj62 t629 (fun k_=>some k_ = (.slice Ao39 t630.length co39:Value).ownBlock) (.slice Ao39 t630.length co39) t630 t633 t634 1 t648 t649 w _ ?side1 ?side2 A93.out).mono ?_);(case side1=>repeat (first|(with_reducible first|exact HB.out|apply bA|apply bN|apply bD|refine bS ?_ GE606.out|refine bS ?_ GE621.out|refine bS ?_ GE628.out|refine bS ?_ GE636.out)|exact HB.out));(case side2=>exact Kd.R_tight rfl HO_637001.out);rintro e w100 ⟨rfl,hy0,hb,hkp⟩;refine ⟨_,rfl,?_⟩;have n0_:=Am (Kd.R_mono (ok':=fun k_=>some k_ ≠ (.slice Ao32 t646.length co32:Value).ownBlock ∧ some k_ ≠ (.slice Ao39 t630.length co39:Value).ownBlock) (Kd.R_keptB (HO_622001.out) hkp (fun k_ hk_ hs_=>(hk_.2) hs_)) (fun k_ hk_=>⟨hk_.1.1,hk_.1.2⟩));have n1_:=Am (Kd.R_mono (ok':=fun k_=>some k_ ≠ (.slice Ao25 t615.length co25:Value).ownBlock ∧ some k_ ≠ (.slice Ao39 t630.length co39:Value).ownBlock) (Kd.R_keptB (HO_629001.out) hkp (fun k_ hk_ hs_=>(hk_.2) hs_)) (fun k_ hk_=>⟨hk_.1.1,hk_.1.2⟩));have n2_:=Am (Kd.R_reok rfl hy0 (fun k_ e_=>HO_637001.out.1 k_ e_));have n3_:=Am (blk_kept (bB BK606.out) hkp (fun hs_=>(fun e_=>(Kd.R_ne HO_637001.out BK606.out (by decide)) e_) hs_));have n4_:=Am (blk_kept (bB BK621.out) hkp (fun hs_=>(fun e_=>(Kd.R_ne HO_637001.out BK621.out (by decide)) e_) hs_));have n5_:=Am (blk_kept (bB BK628.out) hkp (fun hs_=>(fun e_=>(Kd.R_ne HO_637001.out BK628.out (by decide)) e_) hs_));have n6_:=Am (blk_kept (bB BK636.out) hkp (fun hs_=>(fun e_=>(Kd.R_ne HO_637001.out BK636.out (by decide)) e_) hs_));have n7_:=Am (hb);clear HO_622001 HO_629001 HO_637001 BK606 BK621 BK628 BK636 HB;have HO_622001:=n0_;have HO_629001:=n1_;have HO_637001:=n2_;have BK606:=n3_;have BK621:=n4_;have BK628:=n5_;have BK636:=n6_;have HB:=n7_;clear n0_ n1_ n2_ n3_ n4_ n5_ n6_ n7_;(try clear hb);(try clear hkp);(try clear hy0);have hcz101_0:w100.cell? ⟨gb636,0,none⟩ = some (.string t629):=bM BK636.out 0 rfl;have hcz101_1:w100.cell? ⟨gb636,1,none⟩ = some (.slice Ao39 t630.length co39):=bM BK636.out 1 rfl;have hcz101_2:w100.cell? ⟨gb636,2,none⟩ = some (.bool t633):=bM BK636.out 2 rfl;have hcz101_3:w100.cell? ⟨gb636,3,none⟩ = some (.string t634):=bM BK636.out 3 rfl;have hfz101_0:=bZ BK636.out 0;have hfz101_1:=bZ BK636.out 1;have hfz101_2:=bZ BK636.out 2;have hfz101_3:=bZ BK636.out 3)|((with_reducible refine gate_callee (f:=23) rfl ?_);refine goesL_ (some 74) rfl rfl Tryd.func23 (by kernel_rfl) rfl #[.agg #[.string t629, .slice Ao39 t649.length co39, .bool t633, .string t634], .int .i64 1] rfl (by (try simp only [List.map_toArray,List.map_cons,List.map_nil]);first|done|(rw [show t649.length = t630.length from (Kd.R_reads' HO_637001.out).1.symm] <;> rfl)|rfl|(simp only [List.length_drop,List.length_take];rfl)) ?_;(with_reducible refine (laws_heldAddr.calls kj62 t629 _ _ t649 t633 t634 1 t650 _ ?side1 ?side2 A94.out).mono ?_);(case side1=>repeat (first|exact (Kd.R_reads' HO_637001.out).2.2|(with_reducible refine bC ?_)));(case side2=>rw [show t649.length = t630.length from (Kd.R_reads' HO_637001.out).1.symm];exact (Kd.R_reads' HO_637001.out).2.1);rintro e w102 ⟨rfl,hb⟩;refine ⟨_,rfl,?_⟩;have n0_:=Am (Kd.R_below (bR HO_622001.out) hb);have n1_:=Am (Kd.R_below (bR HO_629001.out) hb);have n2_:=Am (Kd.R_below (bR HO_637001.out) hb);have n3_:=Am (blk_below (bB BK606.out) hb);have n4_:=Am (blk_below (bB BK621.out) hb);have n5_:=Am (blk_below (bB BK628.out) hb);have n6_:=Am (blk_below (bB BK636.out) hb);have n7_:=Am (bT (by repeat (first|(with_reducible first|exact HB.out|apply bA|apply bN|apply bD|refine bS ?_ GE606.out|refine bS ?_ GE621.out|refine bS ?_ GE628.out|refine bS ?_ GE636.out)|exact HB.out)) hb);clear HO_622001 HO_629001 HO_637001 BK606 BK621 BK628 BK636 HB;have HO_622001:=n0_;have HO_629001:=n1_;have HO_637001:=n2_;have BK606:=n3_;have BK621:=n4_;have BK628:=n5_;have BK636:=n6_;have HB:=n7_;clear n0_ n1_ n2_ n3_ n4_ n5_ n6_ n7_;(try clear hb)))
           go_ret
           exact ⟨by first|rfl|(simp <;> rfl)|(simp [*] <;> rfl),by repeat (first|(with_reducible first|exact HB.out|apply bA|apply bN|apply bD|refine bS ?_ GE606.out|refine bS ?_ GE621.out|refine bS ?_ GE628.out|refine bS ?_ GE636.out)|exact HB.out)⟩
          ·rw [if_neg c95] at H
           have c95b0:decide (t650 < 0) = false:=decide_eq_false c95
           clear c95
           by_cases c103:t650 = t648
           ·rw [if_pos c103] at H
            have c103b0:(t650 == t648) = true:=beq_iff_eq.mpr c103
            have c103b1:(t650 != t648) = false:=bne_eq_false_iff_eq.mpr c103
            clear c103
            replace H:=bI H
            obtain ⟨⟨t651,t652,t655,t656⟩,A1040,H⟩:=H
            replace H:((impl_AddrJoin.f kj62 t651 t652 t655 t656 a1).bind fun bt657=>((laws_eqAddr.f kj62 bt657.1 bt657.2.1 bt657.2.2.1 bt657.2.2.2.1 t614 t615 t618 t619).bind fun t665=>(if t665 = true then (laws_FnExactAddrJoin.j2 kj62 t648 (bt657.2.2.2.2 != t620) t629 t649 t633 t634) else (laws_FnExactAddrJoin.j2 kj62 t648 true t629 t649 t633 t634)))) = some r:=H
            have A104:=Am A1040
            clear A1040
            replace H:=bI H
            obtain ⟨⟨t657,t658,t661,t662,t663⟩,A1050,H⟩:=H
            replace H:((laws_eqAddr.f kj62 t657 t658 t661 t662 t614 t615 t618 t619).bind fun t665=>(if t665 = true then (laws_FnExactAddrJoin.j2 kj62 t648 (t663 != t620) t629 t649 t633 t634) else (laws_FnExactAddrJoin.j2 kj62 t648 true t629 t649 t633 t634))) = some r:=H
            have A105:=Am A1050
            clear A1050
            have HC106:=Am H
            clear H
            have hnb107:=NB636_606.out
            have hnc107:=NB606_636.out
            have hnb108:=NB636_621.out
            have hnc108:=NB621_636.out
            have hnb109:=NB636_628.out
            have hnc109:=NB628_636.out
            have hcz110_0:wc.cell? ⟨gb636,0,none⟩ = some (.string t629):=bM BK636.out 0 rfl
            have hcz110_1:wc.cell? ⟨gb636,1,none⟩ = some (.slice Ao39 t630.length co39):=bM BK636.out 1 rfl
            have hcz110_2:wc.cell? ⟨gb636,2,none⟩ = some (.bool t633):=bM BK636.out 2 rfl
            have hcz110_3:wc.cell? ⟨gb636,3,none⟩ = some (.string t634):=bM BK636.out 3 rfl
            have hfz110_0:=bZ BK636.out 0
            have hfz110_1:=bZ BK636.out 1
            have hfz110_2:=bZ BK636.out 2
            have hfz110_3:=bZ BK636.out 3
            go_upto_region 27 with (first|((with_reducible refine gate_callee (f:=22) rfl ?_);refine goesL_ (some 71) rfl rfl Tryd.func22 (by kernel_rfl) rfl #[.agg #[.string t629, .slice Ao39 t630.length co39, .bool t633, .string t634], .int .i64 1] rfl (aE2 rfl rfl) ?_;(with_reducible refine (laws_markAddr.calls kj62 t629 (fun k_=>some k_ = (.slice Ao39 t630.length co39:Value).ownBlock) (.slice Ao39 t630.length co39) t630 t633 t634 1 t648 t649 w _ ?side1 ?side2 A93.out).mono ?_);(case side1=>repeat (first|(with_reducible first|exact HB.out|apply bA|apply bN|apply bD|refine bS ?_ GE606.out|refine bS ?_ GE621.out|refine bS ?_ GE628.out|refine bS ?_ GE636.out)|exact HB.out));(case side2=>exact Kd.R_tight rfl HO_637001.out);rintro e w111 ⟨rfl,hy0,hb,hkp⟩;refine ⟨_,rfl,?_⟩;have n0_:=Am (Kd.R_mono (ok':=fun k_=>some k_ ≠ (.slice Ao32 t646.length co32:Value).ownBlock ∧ some k_ ≠ (.slice Ao39 t630.length co39:Value).ownBlock) (Kd.R_keptB (HO_622001.out) hkp (fun k_ hk_ hs_=>(hk_.2) hs_)) (fun k_ hk_=>⟨hk_.1.1,hk_.1.2⟩));have n1_:=Am (Kd.R_mono (ok':=fun k_=>some k_ ≠ (.slice Ao25 t615.length co25:Value).ownBlock ∧ some k_ ≠ (.slice Ao39 t630.length co39:Value).ownBlock) (Kd.R_keptB (HO_629001.out) hkp (fun k_ hk_ hs_=>(hk_.2) hs_)) (fun k_ hk_=>⟨hk_.1.1,hk_.1.2⟩));have n2_:=Am (Kd.R_reok rfl hy0 (fun k_ e_=>HO_637001.out.1 k_ e_));have n3_:=Am (blk_kept (bB BK606.out) hkp (fun hs_=>(fun e_=>(Kd.R_ne HO_637001.out BK606.out (by decide)) e_) hs_));have n4_:=Am (blk_kept (bB BK621.out) hkp (fun hs_=>(fun e_=>(Kd.R_ne HO_637001.out BK621.out (by decide)) e_) hs_));have n5_:=Am (blk_kept (bB BK628.out) hkp (fun hs_=>(fun e_=>(Kd.R_ne HO_637001.out BK628.out (by decide)) e_) hs_));have n6_:=Am (blk_kept (bB BK636.out) hkp (fun hs_=>(fun e_=>(Kd.R_ne HO_637001.out BK636.out (by decide)) e_) hs_));have n7_:=Am (hb);clear HO_622001 HO_629001 HO_637001 BK606 BK621 BK628 BK636 HB;have HO_622001:=n0_;have HO_629001:=n1_;have HO_637001:=n2_;have BK606:=n3_;have BK621:=n4_;have BK628:=n5_;have BK636:=n6_;have HB:=n7_;clear n0_ n1_ n2_ n3_ n4_ n5_ n6_ n7_;(try clear hb);(try clear hkp);(try clear hy0);have hcz112_0:w111.cell? ⟨gb636,0,none⟩ = some (.string t629):=bM BK636.out 0 rfl;have hcz112_1:w111.cell? ⟨gb636,1,none⟩ = some (.slice Ao39 t630.length co39):=bM BK636.out 1 rfl;have hcz112_2:w111.cell? ⟨gb636,2,none⟩ = some (.bool t633):=bM BK636.out 2 rfl;have hcz112_3:w111.cell? ⟨gb636,3,none⟩ = some (.string t634):=bM BK636.out 3 rfl;have hfz112_0:=bZ BK636.out 0;have hfz112_1:=bZ BK636.out 1;have hfz112_2:=bZ BK636.out 2;have hfz112_3:=bZ BK636.out 3)|((with_reducible refine gate_callee (f:=23) rfl ?_);refine goesL_ (some 74) rfl rfl Tryd.func23 (by kernel_rfl) rfl #[.agg #[.string t629, .slice Ao39 t649.length co39, .bool t633, .string t634], .int .i64 1] rfl (by (try simp only [List.map_toArray,List.map_cons,List.map_nil]);first|done|(rw [show t649.length = t630.length from (Kd.R_reads' HO_637001.out).1.symm] <;> rfl)|rfl|(simp only [List.length_drop,List.length_take];rfl)) ?_;(with_reducible refine (laws_heldAddr.calls kj62 t629 _ _ t649 t633 t634 1 t650 _ ?side1 ?side2 A94.out).mono ?_);(case side1=>repeat (first|exact (Kd.R_reads' HO_637001.out).2.2|(with_reducible refine bC ?_)));(case side2=>rw [show t649.length = t630.length from (Kd.R_reads' HO_637001.out).1.symm];exact (Kd.R_reads' HO_637001.out).2.1);rintro e w113 ⟨rfl,hb⟩;refine ⟨_,rfl,?_⟩;have n0_:=Am (Kd.R_below (bR HO_622001.out) hb);have n1_:=Am (Kd.R_below (bR HO_629001.out) hb);have n2_:=Am (Kd.R_below (bR HO_637001.out) hb);have n3_:=Am (blk_below (bB BK606.out) hb);have n4_:=Am (blk_below (bB BK621.out) hb);have n5_:=Am (blk_below (bB BK628.out) hb);have n6_:=Am (blk_below (bB BK636.out) hb);have n7_:=Am (bT (by repeat (first|(with_reducible first|exact HB.out|apply bA|apply bN|apply bD|refine bS ?_ GE606.out|refine bS ?_ GE621.out|refine bS ?_ GE628.out|refine bS ?_ GE636.out)|exact HB.out)) hb);clear HO_622001 HO_629001 HO_637001 BK606 BK621 BK628 BK636 HB;have HO_622001:=n0_;have HO_629001:=n1_;have HO_637001:=n2_;have BK606:=n3_;have BK621:=n4_;have BK628:=n5_;have BK636:=n6_;have HB:=n7_;clear n0_ n1_ n2_ n3_ n4_ n5_ n6_ n7_;(try clear hb);have hnb114:=NB606_621.out;have hnc114:=NB621_606.out;have hnb115:=NB606_628.out;have hnc115:=NB628_606.out;have hcz116_0:w113.cell? ⟨gb606,0,none⟩ = some (.string a0_0):=bM BK606.out 0 rfl;have hcz116_1:w113.cell? ⟨gb606,1,none⟩ = some (.slice A0_1 l0_1.length c0_1):=bM BK606.out 1 rfl;have hcz116_2:w113.cell? ⟨gb606,2,none⟩ = some (.bool a0_2):=bM BK606.out 2 rfl;have hcz116_3:w113.cell? ⟨gb606,3,none⟩ = some (.string a0_3):=bM BK606.out 3 rfl;have hfz116_0:=bZ BK606.out 0;have hfz116_1:=bZ BK606.out 1;have hfz116_2:=bZ BK606.out 2;have hfz116_3:=bZ BK606.out 3)|((with_reducible refine gate_callee (f:=20) rfl ?_);refine goesL_ (some 82) rfl rfl Tryd.func20 (by kernel_rfl) rfl #[.agg #[.string a0_0, .slice A0_1 l0_1.length c0_1, .bool a0_2, .string a0_3]] rfl (aE1 rfl) ?_;(with_reducible refine (laws_toAddr.calls kj62 a0_0 _ _ l0_1 a0_2 a0_3 t651 t652 t655 t656 _ ?side1 ?side2 A104.out).mono ?_);(case side1=>repeat (first|exact (Kd.C_below HR0_1.out HB.out)|(with_reducible refine bC ?_)));(case side2=>exact HC0_1.out);rintro e w117 ⟨v653,rfl,ho0,hb⟩;refine ⟨_,rfl,?_⟩;have n0_:=Am (Kd.R_elder' (bR HO_622001.out) (Kd.R_base ho0) hb);have n1_:=Am (Kd.R_elder' (bR HO_629001.out) (Kd.R_base ho0) hb);have n2_:=Am (Kd.R_elder' (bR HO_637001.out) (Kd.R_base ho0) hb);have n3_:=Am (Kd.R_lower (Kd.R_new' (Kd.R_new' (Kd.R_new' ho0 (Kd.R_lt (bR HO_622001.out))) (Kd.R_lt (bR HO_629001.out))) (Kd.R_lt (bR HO_637001.out))) (bU (by repeat (first|(with_reducible first|exact HB.out|apply bA|apply bN|apply bD|refine bS ?_ GE606.out|refine bS ?_ GE621.out|refine bS ?_ GE628.out|refine bS ?_ GE636.out)|exact HB.out))));have n4_:=Am (blk_below (bB BK606.out) hb);have n5_:=Am (blk_below (bB BK621.out) hb);have n6_:=Am (blk_below (bB BK628.out) hb);have n7_:=Am (blk_below (bB BK636.out) hb);have n8_:=Am (bT (by repeat (first|(with_reducible first|exact HB.out|apply bA|apply bN|apply bD|refine bS ?_ GE606.out|refine bS ?_ GE621.out|refine bS ?_ GE628.out|refine bS ?_ GE636.out)|exact HB.out)) hb);clear HO_622001 HO_629001 HO_637001 BK606 BK621 BK628 BK636 HB;have HO_622001:=n0_;have HO_629001:=n1_;have HO_637001:=n2_;have HO654:=n3_;have BK606:=n4_;have BK621:=n5_;have BK628:=n6_;have BK636:=n7_;have HB:=n8_;clear n0_ n1_ n2_ n3_ n4_ n5_ n6_ n7_ n8_;(try clear hb);(try clear ho0);obtain ⟨Ao118,co118,eo118⟩:=Kd.R_slice HO654.out;subst eo118)|((with_reducible refine gate_callee (f:=13) rfl ?_);refine goesL_ (some 84) rfl rfl Tryd.func13 (by kernel_rfl) rfl #[.agg #[.string t651, .slice Ao118 t652.length co118, .bool t655, .string t656], .string a1] rfl (aE2 rfl rfl) ?_;(with_reducible refine (impl_AddrJoin.calls kj62 t651 _ _ t652 t655 t656 a1 t657 t658 t661 t662 t663 _ ?side1 ?side2 A105.out).mono ?_);(case side1=>repeat (first|exact (Kd.R_reads' HO654.out).2.2|(with_reducible refine bC ?_)));(case side2=>exact (Kd.R_reads' HO654.out).2.1);rintro e w119 ⟨v659,rfl,ho0,hb⟩;refine ⟨_,rfl,?_⟩;have n0_:=Am (Kd.R_elder' (bR HO_622001.out) (Kd.R_base ho0) hb);have n1_:=Am (Kd.R_elder' (bR HO_629001.out) (Kd.R_base ho0) hb);have n2_:=Am (Kd.R_elder' (bR HO_637001.out) (Kd.R_base ho0) hb);have n3_:=Am (Kd.R_elder' (bR HO654.out) (Kd.R_base ho0) hb);have n4_:=Am (Kd.R_lower (Kd.R_new' (Kd.R_new' (Kd.R_new' (Kd.R_new' ho0 (Kd.R_lt (bR HO_622001.out))) (Kd.R_lt (bR HO_629001.out))) (Kd.R_lt (bR HO_637001.out))) (Kd.R_lt (bR HO654.out))) (bU (by repeat (first|(with_reducible first|exact HB.out|apply bA|apply bN|apply bD|refine bS ?_ GE606.out|refine bS ?_ GE621.out|refine bS ?_ GE628.out|refine bS ?_ GE636.out)|exact HB.out))));have n5_:=Am (blk_below (bB BK606.out) hb);have n6_:=Am (blk_below (bB BK621.out) hb);have n7_:=Am (blk_below (bB BK628.out) hb);have n8_:=Am (blk_below (bB BK636.out) hb);have n9_:=Am (bT (by repeat (first|(with_reducible first|exact HB.out|apply bA|apply bN|apply bD|refine bS ?_ GE606.out|refine bS ?_ GE621.out|refine bS ?_ GE628.out|refine bS ?_ GE636.out)|exact HB.out)) hb);clear HO_622001 HO_629001 HO_637001 HO654 BK606 BK621 BK628 BK636 HB;have HO_622001:=n0_;have HO_629001:=n1_;have HO_637001:=n2_;have HO654:=n3_;have HO660:=n4_;have BK606:=n5_;have BK621:=n6_;have BK628:=n7_;have BK636:=n8_;have HB:=n9_;clear n0_ n1_ n2_ n3_ n4_ n5_ n6_ n7_ n8_ n9_;(try clear hb);(try clear ho0))|((with_reducible refine gate_dst (N:=14) rfl ?_);refine box_event ?hg (N:=14) ?hd (cs:=#[.string (⟨#[]⟩:ByteArray), .slice none 0 0, .bool false, .string (⟨#[]⟩:ByteArray)]) (t:=25) ?hr ?_;(case hd=>rfl);(case hg=>rfl);(case hr=>(go_simp <;> rfl));intro gb664 hg w120 hbox hb;have n0_:=Am (Kd.R_below (bR HO_622001.out) hb);have n1_:=Am (Kd.R_below (bR HO_629001.out) hb);have n2_:=Am (Kd.R_below (bR HO_637001.out) hb);have n3_:=Am (Kd.R_below (bR HO654.out) hb);have n4_:=Am (Kd.R_below (bR HO660.out) hb);have n5_:=Am (blk_below (bB BK606.out) hb);have n6_:=Am (blk_below (bB BK621.out) hb);have n7_:=Am (blk_below (bB BK628.out) hb);have n8_:=Am (blk_below (bB BK636.out) hb);have n9_:=Am (bT (by repeat (first|(with_reducible first|exact HB.out|apply bA|apply bN|apply bD|refine bS ?_ GE606.out|refine bS ?_ GE621.out|refine bS ?_ GE628.out|refine bS ?_ GE636.out)|exact HB.out)) hb);have n10_:=Am (hbox);have n11_:=Am ((by rw [hg];exact (bU (by repeat (first|(with_reducible first|exact HB.out|apply bA|apply bN|apply bD|refine bS ?_ GE606.out|refine bS ?_ GE621.out|refine bS ?_ GE628.out|refine bS ?_ GE636.out)|exact HB.out))):w.heap.size ≤ gb664));have n12_:=n11_;have n13_:=Am ((by rw [hg];exact Nat.ne_of_lt (blk_lt (bB BK606.out)):gb606 ≠ gb664));have n14_:=Am ((by rw [hg];exact Nat.ne_of_gt (blk_lt (bB BK606.out)):gb664 ≠ gb606));have n15_:=Am ((by rw [hg];exact Nat.ne_of_lt (blk_lt (bB BK621.out)):gb621 ≠ gb664));have n16_:=Am ((by rw [hg];exact Nat.ne_of_gt (blk_lt (bB BK621.out)):gb664 ≠ gb621));have n17_:=Am ((by rw [hg];exact Nat.ne_of_lt (blk_lt (bB BK628.out)):gb628 ≠ gb664));have n18_:=Am ((by rw [hg];exact Nat.ne_of_gt (blk_lt (bB BK628.out)):gb664 ≠ gb628));have n19_:=Am ((by rw [hg];exact Nat.ne_of_lt (blk_lt (bB BK636.out)):gb636 ≠ gb664));have n20_:=Am ((by rw [hg];exact Nat.ne_of_gt (blk_lt (bB BK636.out)):gb664 ≠ gb636));clear HO_622001 HO_629001 HO_637001 HO654 HO660 BK606 BK621 BK628 BK636 HB;have HO_622001:=n0_;have HO_629001:=n1_;have HO_637001:=n2_;have HO654:=n3_;have HO660:=n4_;have BK606:=n5_;have BK621:=n6_;have BK628:=n7_;have BK636:=n8_;have HB:=n9_;have BK664:=n10_;have GW664:=n11_;have GE664:=n12_;have NB606_664:=n13_;have NB664_606:=n14_;have NB621_664:=n15_;have NB664_621:=n16_;have NB628_664:=n17_;have NB664_628:=n18_;have NB636_664:=n19_;have NB664_636:=n20_;clear n0_ n1_ n2_ n3_ n4_ n5_ n6_ n7_ n8_ n9_ n10_ n11_ n12_ n13_ n14_ n15_ n16_ n17_ n18_ n19_ n20_ hb hbox hg;have hnb121:=NB664_606.out;have hnc121:=NB606_664.out;have hnb122:=NB664_621.out;have hnc122:=NB621_664.out;have hnb123:=NB664_628.out;have hnc123:=NB628_664.out;have hnb124:=NB664_636.out;have hnc124:=NB636_664.out;have hcz125_0:w120.cell? ⟨gb664,0,none⟩ = some (.string (⟨#[]⟩:ByteArray)):=bM BK664.out 0 rfl;have hcz125_1:w120.cell? ⟨gb664,1,none⟩ = some (.slice none 0 0):=bM BK664.out 1 rfl;have hcz125_2:w120.cell? ⟨gb664,2,none⟩ = some (.bool false):=bM BK664.out 2 rfl;have hcz125_3:w120.cell? ⟨gb664,3,none⟩ = some (.string (⟨#[]⟩:ByteArray)):=bM BK664.out 3 rfl;have hfz125_0:=bZ BK664.out 0;have hfz125_1:=bZ BK664.out 1;have hfz125_2:=bZ BK664.out 2;have hfz125_3:=bZ BK664.out 3;obtain ⟨Ao126,co126,eo126⟩:=Kd.R_slice HO660.out;subst eo126))
            (try simp only [Act.put,List.setIfInBounds_toArray,List.set_cons_zero,List.set_cons_succ])
            go_cut [95] (fun v95 wc=>∃ (kq:Nat) (x95_105:Bool),v95 = .bool x95_105 ∧ Aside0 (laws_FnExactAddrJoin.j2 kq t648 x95_105 t629 t649 t633 t634 = some r) ∧ Aside0 (kq ≤ kj62) ∧ Aside0 (Kd.R Kd.string 9 wc w.heap.size (fun k_=>some k_ ≠ ((.slice Ao32 t646.length co32):Value).ownBlock ∧ some k_ ≠ ((.slice Ao39 t630.length co39):Value).ownBlock ∧ some k_ ≠ ((.slice Ao126 t658.length co126):Value).ownBlock) (.slice Ao25 t615.length co25) t615) ∧ Aside0 (Kd.R Kd.string 9 wc w.heap.size (fun k_=>some k_ ≠ ((.slice Ao25 t615.length co25):Value).ownBlock ∧ some k_ ≠ ((.slice Ao39 t630.length co39):Value).ownBlock ∧ some k_ ≠ ((.slice Ao126 t658.length co126):Value).ownBlock) (.slice Ao32 t646.length co32) t646) ∧ Aside0 (Kd.R Kd.string 9 wc w.heap.size (fun k_=>some k_ ≠ ((.slice Ao25 t615.length co25):Value).ownBlock ∧ some k_ ≠ ((.slice Ao32 t646.length co32):Value).ownBlock ∧ some k_ ≠ ((.slice Ao126 t658.length co126):Value).ownBlock) (.slice Ao39 t630.length co39) t649) ∧ Aside0 (Kd.R Kd.string 9 wc w.heap.size (fun k_=>some k_ ≠ ((.slice Ao25 t615.length co25):Value).ownBlock ∧ some k_ ≠ ((.slice Ao32 t646.length co32):Value).ownBlock ∧ some k_ ≠ ((.slice Ao39 t630.length co39):Value).ownBlock) (.slice Ao126 t658.length co126) t658) ∧ Aside0 (wc.heap[gb606]? = some (.cells #[.string a0_0,(.slice A0_1 l0_1.length c0_1), .bool a0_2, .string a0_3] 36 (0,0))) ∧ Aside0 (wc.heap[gb621]? = some (.cells #[.string t614,(.slice Ao25 t615.length co25), .bool t618, .string t619] 25 (0,0))) ∧ Aside0 (wc.heap[gb628]? = some (.cells #[.string t622,(.slice Ao32 t646.length co32), .bool t626, .string t627] 25 (0,0))) ∧ Aside0 (wc.heap[gb636]? = some (.cells #[.string t629,(.slice Ao39 t630.length co39), .bool t633, .string t634] 25 (0,0))) ∧ Aside0 (wc.heap[gb664]? = some (.cells #[.string t657,(.slice Ao126 t658.length co126), .bool t661, .string t662] 25 (0,0))) ∧ Aside0 (Below w.heap.size w wc))
            case first =>
             have H:=HC106.out
             clear HC106
             replace H:=bI H
             obtain ⟨t665,A1270,H⟩:=H
             replace H:(if t665 = true then (laws_FnExactAddrJoin.j2 kj62 t648 (t663 != t620) t629 t649 t633 t634) else (laws_FnExactAddrJoin.j2 kj62 t648 true t629 t649 t633 t634)) = some r:=H
             have A127:=Am A1270
             clear A1270
             by_cases c128:t665 = true
             ·subst c128
              have H1:(laws_FnExactAddrJoin.j2 kj62 t648 (t663 != t620) t629 t649 t633 t634) = some r:=by rw [if_pos rfl] at H;exact H
              clear H
              have H:=H1
              clear H1
              have H':=Am H
              clear H
              have hnb129:=NB664_606.out
              have hnc129:=NB606_664.out
              have hnb130:=NB664_621.out
              have hnc130:=NB621_664.out
              have hnb131:=NB664_628.out
              have hnc131:=NB628_664.out
              have hnb132:=NB664_636.out
              have hnc132:=NB636_664.out
              have hcz133_0:w120.cell? ⟨gb664,0,none⟩ = some (.string (⟨#[]⟩:ByteArray)):=bM BK664.out 0 rfl
              have hcz133_1:w120.cell? ⟨gb664,1,none⟩ = some (.slice none 0 0):=bM BK664.out 1 rfl
              have hcz133_2:w120.cell? ⟨gb664,2,none⟩ = some (.bool false):=bM BK664.out 2 rfl
              have hcz133_3:w120.cell? ⟨gb664,3,none⟩ = some (.string (⟨#[]⟩:ByteArray)):=bM BK664.out 3 rfl
              have hfz133_0:=bZ BK664.out 0
              have hfz133_1:=bZ BK664.out 1
              have hfz133_2:=bZ BK664.out 2
              have hfz133_3:=bZ BK664.out 3
              have hnb134:=NB621_606.out
              have hnc134:=NB606_621.out
              have hnb135:=NB621_628.out
              have hnc135:=NB628_621.out
              have hnb136:=NB621_636.out
              have hnc136:=NB636_621.out
              have hcz137_0:w120.cell? ⟨gb621,0,none⟩ = some (.string t614):=bM BK621.out 0 rfl
              have hcz137_1:w120.cell? ⟨gb621,1,none⟩ = some (.slice Ao25 t615.length co25):=bM BK621.out 1 rfl
              have hcz137_2:w120.cell? ⟨gb621,2,none⟩ = some (.bool t618):=bM BK621.out 2 rfl
              have hcz137_3:w120.cell? ⟨gb621,3,none⟩ = some (.string t619):=bM BK621.out 3 rfl
              have hfz137_0:=bZ BK621.out 0
              have hfz137_1:=bZ BK621.out 1
              have hfz137_2:=bZ BK621.out 2
              have hfz137_3:=bZ BK621.out 3
              go_wp2_with (first|((with_reducible refine gate_callee (f:=21) rfl ?_);refine goesL_ (some 89) rfl rfl Tryd.func21 (by kernel_rfl) rfl #[.agg #[.string t657, .slice Ao126 t658.length co126, .bool t661, .string t662], .agg #[.string t614, .slice Ao25 t615.length co25, .bool t618, .string t619]] rfl (aE2 rfl rfl) ?_;(with_reducible refine (laws_eqAddr.calls kj62 t657 _ _ t658 t661 t662 t614 _ _ t615 t618 t619 true _ ?side1 ?side2 ?side3 ?side4 A127.out).mono ?_);(case side1=>refine (Kd.R_reads' (e:=9) (base:=w.heap.size) (ok:=fun k_=>((((True ∧ some k_ ≠ (.slice Ao25 t615.length co25:Value).ownBlock) ∧ some k_ ≠ (.slice Ao32 t646.length co32:Value).ownBlock) ∧ some k_ ≠ (.slice Ao39 t630.length co39:Value).ownBlock) ∧ some k_ ≠ (.slice Ao118 t652.length co118:Value).ownBlock)) (n:=t658.length) (c:=co126) ?_).2.2;exact (by (with_reducible repeat (first|apply rA|apply rN|apply rD));exact (bQ HO660.out BK664.out (by decide) _ _ _ _)));(case side2=>exact (Kd.R_reads' HO660.out).2.1);(case side3=>refine (Kd.R_reads' (e:=9) (base:=w.heap.size) (ok:=fun k_=>(((some k_ ≠ (.slice Ao32 t646.length co32:Value).ownBlock ∧ some k_ ≠ (.slice Ao39 t630.length co39:Value).ownBlock) ∧ some k_ ≠ (.slice Ao118 t652.length co118:Value).ownBlock) ∧ some k_ ≠ (.slice Ao126 t658.length co126:Value).ownBlock)) (n:=t615.length) (c:=co25) ?_).2.2;exact (by (with_reducible repeat (first|apply rA|apply rN|apply rD));exact (bQ HO_622001.out BK664.out (by decide) _ _ _ _)));(case side4=>exact (Kd.R_reads' HO_622001.out).2.1);rintro e w138 ⟨rfl,hb⟩;refine ⟨_,rfl,?_⟩;have n0_:=Am (Kd.R_below (by (with_reducible repeat (first|apply rA|apply rN|apply rD));exact (bQ HO_622001.out BK664.out (by decide) _ _ _ _)) hb);have n1_:=Am (Kd.R_below (by (with_reducible repeat (first|apply rA|apply rN|apply rD));exact (bQ HO_629001.out BK664.out (by decide) _ _ _ _)) hb);have n2_:=Am (Kd.R_below (by (with_reducible repeat (first|apply rA|apply rN|apply rD));exact (bQ HO_637001.out BK664.out (by decide) _ _ _ _)) hb);have n3_:=Am (Kd.R_below (by (with_reducible repeat (first|apply rA|apply rN|apply rD));exact (bQ HO654.out BK664.out (by decide) _ _ _ _)) hb);have n4_:=Am (Kd.R_below (by (with_reducible repeat (first|apply rA|apply rN|apply rD));exact (bQ HO660.out BK664.out (by decide) _ _ _ _)) hb);have n5_:=Am (blk_below (g:=gb606) (o:=.cells #[.string a0_0, .slice A0_1 l0_1.length c0_1, .bool a0_2, .string a0_3] 36 (0,0)) (by refine bB ?_;refine bF ?_ NB606_664.out;refine bB ?_;exact BK606.out) hb);have n6_:=Am (blk_below (g:=gb621) (o:=.cells #[.string t614, .slice Ao25 t615.length co25, .bool t618, .string t619] 25 (0,0)) (by refine bB ?_;refine bF ?_ NB621_664.out;refine bB ?_;exact BK621.out) hb);have n7_:=Am (blk_below (g:=gb628) (o:=.cells #[.string t622, .slice Ao32 t646.length co32, .bool t626, .string t627] 25 (0,0)) (by refine bB ?_;refine bF ?_ NB628_664.out;refine bB ?_;exact BK628.out) hb);have n8_:=Am (blk_below (g:=gb636) (o:=.cells #[.string t629, .slice Ao39 t630.length co39, .bool t633, .string t634] 25 (0,0)) (by refine bB ?_;refine bF ?_ NB636_664.out;refine bB ?_;exact BK636.out) hb);have n9_:=Am (blk_below (g:=gb664) (o:=.cells #[.string t657, .slice Ao126 t658.length co126, .bool t661, .string t662] 25 (0,0)) (by refine bB ?_;apply bP;refine bB ?_;exact BK664.out) hb);have n10_:=Am (bT (by repeat (first|(with_reducible first|exact HB.out|apply bA|apply bN|apply bD|refine bS ?_ GE606.out|refine bS ?_ GE621.out|refine bS ?_ GE628.out|refine bS ?_ GE636.out|refine bS ?_ GE664.out)|exact HB.out)) hb);clear HO_622001 HO_629001 HO_637001 HO654 HO660 BK606 BK621 BK628 BK636 BK664 HB;have HO_622001:=n0_;have HO_629001:=n1_;have HO_637001:=n2_;have HO654:=n3_;have HO660:=n4_;have BK606:=n5_;have BK621:=n6_;have BK628:=n7_;have BK636:=n8_;have BK664:=n9_;have HB:=n10_;clear n0_ n1_ n2_ n3_ n4_ n5_ n6_ n7_ n8_ n9_ n10_;(try clear hb)))
              go_meet
              case rel=>exact ⟨_,((t663 != t620)),(by first|rfl|(simp;done)|(simp only [i64_w,i32_w] <;> rfl)|(simp [*];done)|(simp [emp_bne,emp_beq];done)),H',⟨by have:=HJ13.out;have:=HJ62.out;first|omega|exact Nat.le_refl _⟩,⟨by (try simp only [hl629001_62]);(with_reducible repeat (first|apply rA|apply rN|apply rD));exact Kd.R_mono HO_622001.out (fun _ hk=>⟨hk.1.1.1,⟨hk.1.1.2,hk.2⟩⟩)⟩,⟨by (try simp only [hl629001_62]);(with_reducible repeat (first|apply rA|apply rN|apply rD));exact Kd.R_mono HO_629001.out (fun _ hk=>⟨hk.1.1.1,⟨hk.1.1.2,hk.2⟩⟩)⟩,⟨by (try simp only [hl629001_62]);(with_reducible repeat (first|apply rA|apply rN|apply rD));exact Kd.R_mono HO_637001.out (fun _ hk=>⟨hk.1.1.1,⟨hk.1.1.2,hk.2⟩⟩)⟩,⟨by (try simp only [hl629001_62]);(with_reducible repeat (first|apply rA|apply rN|apply rD));exact Kd.R_mono HO660.out (fun _ hk=>⟨hk.1.1.1.2,⟨hk.1.1.2,hk.1.2⟩⟩)⟩,⟨by (try simp only [hl629001_62]);refine bB ?_;exact BK606.out⟩,⟨by (try simp only [hl629001_62]);refine bB ?_;exact BK621.out⟩,⟨by (try simp only [hl629001_62]);refine bB ?_;exact BK628.out⟩,⟨by (try simp only [hl629001_62]);refine bB ?_;exact BK636.out⟩,⟨by (try simp only [hl629001_62]);refine bB ?_;exact BK664.out⟩,⟨by repeat (first|(with_reducible first|exact HB.out|apply bA|apply bN|apply bD|refine bS ?_ GE606.out|refine bS ?_ GE621.out|refine bS ?_ GE628.out|refine bS ?_ GE636.out|refine bS ?_ GE664.out)|exact HB.out)⟩⟩
             ·replace c128:=Bool.eq_false_iff.mpr c128
              subst c128
              have H1:(laws_FnExactAddrJoin.j2 kj62 t648 true t629 t649 t633 t634) = some r:=by rw [if_neg (show ¬ (false = true) by decide)] at H;exact H
              clear H
              have H:=H1
              clear H1
              have H':=Am H
              clear H
              have hnb139:=NB664_606.out
              have hnc139:=NB606_664.out
              have hnb140:=NB664_621.out
              have hnc140:=NB621_664.out
              have hnb141:=NB664_628.out
              have hnc141:=NB628_664.out
              have hnb142:=NB664_636.out
              have hnc142:=NB636_664.out
              have hcz143_0:w120.cell? ⟨gb664,0,none⟩ = some (.string (⟨#[]⟩:ByteArray)):=bM BK664.out 0 rfl
              have hcz143_1:w120.cell? ⟨gb664,1,none⟩ = some (.slice none 0 0):=bM BK664.out 1 rfl
              have hcz143_2:w120.cell? ⟨gb664,2,none⟩ = some (.bool false):=bM BK664.out 2 rfl
              have hcz143_3:w120.cell? ⟨gb664,3,none⟩ = some (.string (⟨#[]⟩:ByteArray)):=bM BK664.out 3 rfl
              have hfz143_0:=bZ BK664.out 0
              have hfz143_1:=bZ BK664.out 1
              have hfz143_2:=bZ BK664.out 2
              have hfz143_3:=bZ BK664.out 3
              have hnb144:=NB621_606.out
              have hnc144:=NB606_621.out
              have hnb145:=NB621_628.out
              have hnc145:=NB628_621.out
              have hnb146:=NB621_636.out
              have hnc146:=NB636_621.out
              have hcz147_0:w120.cell? ⟨gb621,0,none⟩ = some (.string t614):=bM BK621.out 0 rfl
              have hcz147_1:w120.cell? ⟨gb621,1,none⟩ = some (.slice Ao25 t615.length co25):=bM BK621.out 1 rfl
              have hcz147_2:w120.cell? ⟨gb621,2,none⟩ = some (.bool t618):=bM BK621.out 2 rfl
              have hcz147_3:w120.cell? ⟨gb621,3,none⟩ = some (.string t619):=bM BK621.out 3 rfl
              have hfz147_0:=bZ BK621.out 0
              have hfz147_1:=bZ BK621.out 1
              have hfz147_2:=bZ BK621.out 2
              have hfz147_3:=bZ BK621.out 3
              go_wp2_with (first|((with_reducible refine gate_callee (f:=21) rfl ?_);refine goesL_ (some 89) rfl rfl Tryd.func21 (by kernel_rfl) rfl #[.agg #[.string t657, .slice Ao126 t658.length co126, .bool t661, .string t662], .agg #[.string t614, .slice Ao25 t615.length co25, .bool t618, .string t619]] rfl (aE2 rfl rfl) ?_;(with_reducible refine (laws_eqAddr.calls kj62 t657 _ _ t658 t661 t662 t614 _ _ t615 t618 t619 false _ ?side1 ?side2 ?side3 ?side4 A127.out).mono ?_);(case side1=>refine (Kd.R_reads' (e:=9) (base:=w.heap.size) (ok:=fun k_=>((((True ∧ some k_ ≠ (.slice Ao25 t615.length co25:Value).ownBlock) ∧ some k_ ≠ (.slice Ao32 t646.length co32:Value).ownBlock) ∧ some k_ ≠ (.slice Ao39 t630.length co39:Value).ownBlock) ∧ some k_ ≠ (.slice Ao118 t652.length co118:Value).ownBlock)) (n:=t658.length) (c:=co126) ?_).2.2;exact (by (with_reducible repeat (first|apply rA|apply rN|apply rD));exact (bQ HO660.out BK664.out (by decide) _ _ _ _)));(case side2=>exact (Kd.R_reads' HO660.out).2.1);(case side3=>refine (Kd.R_reads' (e:=9) (base:=w.heap.size) (ok:=fun k_=>(((some k_ ≠ (.slice Ao32 t646.length co32:Value).ownBlock ∧ some k_ ≠ (.slice Ao39 t630.length co39:Value).ownBlock) ∧ some k_ ≠ (.slice Ao118 t652.length co118:Value).ownBlock) ∧ some k_ ≠ (.slice Ao126 t658.length co126:Value).ownBlock)) (n:=t615.length) (c:=co25) ?_).2.2;exact (by (with_reducible repeat (first|apply rA|apply rN|apply rD));exact (bQ HO_622001.out BK664.out (by decide) _ _ _ _)));(case side4=>exact (Kd.R_reads' HO_622001.out).2.1);rintro e w148 ⟨rfl,hb⟩;refine ⟨_,rfl,?_⟩;have n0_:=Am (Kd.R_below (by (with_reducible repeat (first|apply rA|apply rN|apply rD));exact (bQ HO_622001.out BK664.out (by decide) _ _ _ _)) hb);have n1_:=Am (Kd.R_below (by (with_reducible repeat (first|apply rA|apply rN|apply rD));exact (bQ HO_629001.out BK664.out (by decide) _ _ _ _)) hb);have n2_:=Am (Kd.R_below (by (with_reducible repeat (first|apply rA|apply rN|apply rD));exact (bQ HO_637001.out BK664.out (by decide) _ _ _ _)) hb);have n3_:=Am (Kd.R_below (by (with_reducible repeat (first|apply rA|apply rN|apply rD));exact (bQ HO654.out BK664.out (by decide) _ _ _ _)) hb);have n4_:=Am (Kd.R_below (by (with_reducible repeat (first|apply rA|apply rN|apply rD));exact (bQ HO660.out BK664.out (by decide) _ _ _ _)) hb);have n5_:=Am (blk_below (g:=gb606) (o:=.cells #[.string a0_0, .slice A0_1 l0_1.length c0_1, .bool a0_2, .string a0_3] 36 (0,0)) (by refine bB ?_;refine bF ?_ NB606_664.out;refine bB ?_;exact BK606.out) hb);have n6_:=Am (blk_below (g:=gb621) (o:=.cells #[.string t614, .slice Ao25 t615.length co25, .bool t618, .string t619] 25 (0,0)) (by refine bB ?_;refine bF ?_ NB621_664.out;refine bB ?_;exact BK621.out) hb);have n7_:=Am (blk_below (g:=gb628) (o:=.cells #[.string t622, .slice Ao32 t646.length co32, .bool t626, .string t627] 25 (0,0)) (by refine bB ?_;refine bF ?_ NB628_664.out;refine bB ?_;exact BK628.out) hb);have n8_:=Am (blk_below (g:=gb636) (o:=.cells #[.string t629, .slice Ao39 t630.length co39, .bool t633, .string t634] 25 (0,0)) (by refine bB ?_;refine bF ?_ NB636_664.out;refine bB ?_;exact BK636.out) hb);have n9_:=Am (blk_below (g:=gb664) (o:=.cells #[.string t657, .slice Ao126 t658.length co126, .bool t661, .string t662] 25 (0,0)) (by refine bB ?_;apply bP;refine bB ?_;exact BK664.out) hb);have n10_:=Am (bT (by repeat (first|(with_reducible first|exact HB.out|apply bA|apply bN|apply bD|refine bS ?_ GE606.out|refine bS ?_ GE621.out|refine bS ?_ GE628.out|refine bS ?_ GE636.out|refine bS ?_ GE664.out)|exact HB.out)) hb);clear HO_622001 HO_629001 HO_637001 HO654 HO660 BK606 BK621 BK628 BK636 BK664 HB;have HO_622001:=n0_;have HO_629001:=n1_;have HO_637001:=n2_;have HO654:=n3_;have HO660:=n4_;have BK606:=n5_;have BK621:=n6_;have BK628:=n7_;have BK636:=n8_;have BK664:=n9_;have HB:=n10_;clear n0_ n1_ n2_ n3_ n4_ n5_ n6_ n7_ n8_ n9_ n10_;(try clear hb)))
              go_meet
              case rel=>exact ⟨_,(true),(by first|rfl|(simp;done)|(simp only [i64_w,i32_w] <;> rfl)|(simp [*];done)|(simp [emp_bne,emp_beq];done)),H',⟨by have:=HJ13.out;have:=HJ62.out;first|omega|exact Nat.le_refl _⟩,⟨by (try simp only [hl629001_62]);(with_reducible repeat (first|apply rA|apply rN|apply rD));exact Kd.R_mono HO_622001.out (fun _ hk=>⟨hk.1.1.1,⟨hk.1.1.2,hk.2⟩⟩)⟩,⟨by (try simp only [hl629001_62]);(with_reducible repeat (first|apply rA|apply rN|apply rD));exact Kd.R_mono HO_629001.out (fun _ hk=>⟨hk.1.1.1,⟨hk.1.1.2,hk.2⟩⟩)⟩,⟨by (try simp only [hl629001_62]);(with_reducible repeat (first|apply rA|apply rN|apply rD));exact Kd.R_mono HO_637001.out (fun _ hk=>⟨hk.1.1.1,⟨hk.1.1.2,hk.2⟩⟩)⟩,⟨by (try simp only [hl629001_62]);(with_reducible repeat (first|apply rA|apply rN|apply rD));exact Kd.R_mono HO660.out (fun _ hk=>⟨hk.1.1.1.2,⟨hk.1.1.2,hk.1.2⟩⟩)⟩,⟨by (try simp only [hl629001_62]);refine bB ?_;exact BK606.out⟩,⟨by (try simp only [hl629001_62]);refine bB ?_;exact BK621.out⟩,⟨by (try simp only [hl629001_62]);refine bB ?_;exact BK628.out⟩,⟨by (try simp only [hl629001_62]);refine bB ?_;exact BK636.out⟩,⟨by (try simp only [hl629001_62]);refine bB ?_;exact BK664.out⟩,⟨by repeat (first|(with_reducible first|exact HB.out|apply bA|apply bN|apply bD|refine bS ?_ GE606.out|refine bS ?_ GE621.out|refine bS ?_ GE628.out|refine bS ?_ GE636.out|refine bS ?_ GE664.out)|exact HB.out)⟩⟩
            case rest =>
             clear HC106
             try clear c1
             try clear c2
             try clear p2
             try clear c3
             try clear c3b0
             try clear c3b1
             try clear c4
             try clear c5
             try clear c6
             try clear c6b0
             try clear c7
             try clear c8
             try clear c9
             try clear c10
             try clear c11
             try clear c12
             try clear c13
             try clear c14
             try clear c19
             try clear c20
             try clear c21
             try clear c22
             try clear c23
             try clear c29
             try clear c30
             try clear c35
             try clear c36
             try clear c37
             try clear c41
             try clear c42
             try clear c43
             try clear c44
             try clear c46
             try clear c47
             try clear c50
             try clear c51
             try clear c52
             try clear c54
             try clear c55
             try clear c58
             try clear c61
             try clear c68
             try clear c69
             try clear c70
             try clear c73
             try clear c73b0
             try clear c75
             try clear c76
             try clear c77
             try clear c78
             try clear c80
             try clear c81
             try clear c84
             try clear c85
             try clear c86
             try clear c88
             try clear c89
             try clear c92
             try clear c95
             try clear c95b0
             try clear c96
             try clear c97
             try clear c98
             try clear c103
             try clear c103b0
             try clear c103b1
             try clear c107
             try clear c108
             try clear c109
             try clear c114
             try clear c115
             try clear c121
             try clear c122
             try clear c123
             try clear c124
             try clear c128
             try clear c129
             try clear c130
             try clear c131
             try clear c132
             try clear c134
             try clear c135
             try clear c136
             try clear c139
             try clear c140
             try clear c141
             try clear c142
             try clear c144
             try clear c145
             try clear c146
             try clear hcz101_0
             try clear hcz101_1
             try clear hcz101_2
             try clear hcz101_3
             try clear hcz110_0
             try clear hcz110_1
             try clear hcz110_2
             try clear hcz110_3
             try clear hcz112_0
             try clear hcz112_1
             try clear hcz112_2
             try clear hcz112_3
             try clear hcz116_0
             try clear hcz116_1
             try clear hcz116_2
             try clear hcz116_3
             try clear hcz125_0
             try clear hcz125_1
             try clear hcz125_2
             try clear hcz125_3
             try clear hcz133_0
             try clear hcz133_1
             try clear hcz133_2
             try clear hcz133_3
             try clear hcz137_0
             try clear hcz137_1
             try clear hcz137_2
             try clear hcz137_3
             try clear hcz143_0
             try clear hcz143_1
             try clear hcz143_2
             try clear hcz143_3
             try clear hcz147_0
             try clear hcz147_1
             try clear hcz147_2
             try clear hcz147_3
             try clear hcz16_0
             try clear hcz16_1
             try clear hcz16_2
             try clear hcz16_3
             try clear hcz18_0
             try clear hcz18_1
             try clear hcz18_2
             try clear hcz18_3
             try clear hcz24_0
             try clear hcz24_1
             try clear hcz24_2
             try clear hcz24_3
             try clear hcz26_0
             try clear hcz26_1
             try clear hcz26_2
             try clear hcz26_3
             try clear hcz31_0
             try clear hcz31_1
             try clear hcz31_2
             try clear hcz31_3
             try clear hcz38_0
             try clear hcz38_1
             try clear hcz38_2
             try clear hcz38_3
             try clear hcz45_0
             try clear hcz45_1
             try clear hcz45_2
             try clear hcz45_3
             try clear hcz48_0
             try clear hcz48_1
             try clear hcz48_2
             try clear hcz48_3
             try clear hcz53_0
             try clear hcz53_1
             try clear hcz53_2
             try clear hcz53_3
             try clear hcz56_0
             try clear hcz56_1
             try clear hcz56_2
             try clear hcz56_3
             try clear hcz71_0
             try clear hcz71_1
             try clear hcz71_2
             try clear hcz71_3
             try clear hcz79_0
             try clear hcz79_1
             try clear hcz79_2
             try clear hcz79_3
             try clear hcz82_0
             try clear hcz82_1
             try clear hcz82_2
             try clear hcz82_3
             try clear hcz87_0
             try clear hcz87_1
             try clear hcz87_2
             try clear hcz87_3
             try clear hcz8_0
             try clear hcz8_1
             try clear hcz8_2
             try clear hcz8_3
             try clear hcz90_0
             try clear hcz90_1
             try clear hcz90_2
             try clear hcz90_3
             try clear hcz99_0
             try clear hcz99_1
             try clear hcz99_2
             try clear hcz99_3
             try clear hfz101_0
             try clear hfz101_1
             try clear hfz101_2
             try clear hfz101_3
             try clear hfz110_0
             try clear hfz110_1
             try clear hfz110_2
             try clear hfz110_3
             try clear hfz112_0
             try clear hfz112_1
             try clear hfz112_2
             try clear hfz112_3
             try clear hfz116_0
             try clear hfz116_1
             try clear hfz116_2
             try clear hfz116_3
             try clear hfz125_0
             try clear hfz125_1
             try clear hfz125_2
             try clear hfz125_3
             try clear hfz133_0
             try clear hfz133_1
             try clear hfz133_2
             try clear hfz133_3
             try clear hfz137_0
             try clear hfz137_1
             try clear hfz137_2
             try clear hfz137_3
             try clear hfz143_0
             try clear hfz143_1
             try clear hfz143_2
             try clear hfz143_3
             try clear hfz147_0
             try clear hfz147_1
             try clear hfz147_2
             try clear hfz147_3
             try clear hfz16_0
             try clear hfz16_1
             try clear hfz16_2
             try clear hfz16_3
             try clear hfz18_0
             try clear hfz18_1
             try clear hfz18_2
             try clear hfz18_3
             try clear hfz24_0
             try clear hfz24_1
             try clear hfz24_2
             try clear hfz24_3
             try clear hfz26_0
             try clear hfz26_1
             try clear hfz26_2
             try clear hfz26_3
             try clear hfz31_0
             try clear hfz31_1
             try clear hfz31_2
             try clear hfz31_3
             try clear hfz38_0
             try clear hfz38_1
             try clear hfz38_2
             try clear hfz38_3
             try clear hfz45_0
             try clear hfz45_1
             try clear hfz45_2
             try clear hfz45_3
             try clear hfz48_0
             try clear hfz48_1
             try clear hfz48_2
             try clear hfz48_3
             try clear hfz53_0
             try clear hfz53_1
             try clear hfz53_2
             try clear hfz53_3
             try clear hfz56_0
             try clear hfz56_1
             try clear hfz56_2
             try clear hfz56_3
             try clear hfz71_0
             try clear hfz71_1
             try clear hfz71_2
             try clear hfz71_3
             try clear hfz79_0
             try clear hfz79_1
             try clear hfz79_2
             try clear hfz79_3
             try clear hfz82_0
             try clear hfz82_1
             try clear hfz82_2
             try clear hfz82_3
             try clear hfz87_0
             try clear hfz87_1
             try clear hfz87_2
             try clear hfz87_3
             try clear hfz8_0
             try clear hfz8_1
             try clear hfz8_2
             try clear hfz8_3
             try clear hfz90_0
             try clear hfz90_1
             try clear hfz90_2
             try clear hfz90_3
             try clear hfz99_0
             try clear hfz99_1
             try clear hfz99_2
             try clear hfz99_3
             try clear p2
             obtain ⟨kq,x95_105,rfl,HA,HJ105,HO_622001,HO_629001,HO_637001,HO_665001,BK606,BK621,BK628,BK636,BK664,HB⟩:=hcut
             have hl637001_105:=(Kd.R_reads' HO_637001.out).1
             rw [hl637001_105] at HO_637001
             (try simp only [hl637001_105])
             (try simp only [hl637001_105] at BK606)
             (try simp only [hl637001_105] at BK621)
             (try simp only [hl637001_105] at BK628)
             (try simp only [hl637001_105] at BK636)
             (try simp only [hl637001_105] at BK664)
             (try simp only [hl637001_105] at HO_622001)
             (try simp only [hl637001_105] at HO_629001)
             (try simp only [hl637001_105] at HO_665001)
             cases kq with
             | zero=>exact absurd HA.out (by simp [laws_FnExactAddrJoin.j2])
             | succ kj105 =>
              have H:=HA.out
              clear HA
              simp only [laws_FnExactAddrJoin.j2] at H
              by_cases c149:x95_105 = true
              ·subst c149
               have H1:(some false) = some r:=by rw [if_pos rfl] at H;exact H
               clear H
               have H:=H1
               clear H1
               obtain rfl:=Option.some.inj H
               go_wp2
               go_ret
               exact ⟨by first|rfl|(simp <;> rfl)|(simp [*] <;> rfl),by repeat (first|(with_reducible first|exact HB.out|apply bA|apply bN|apply bD|refine bS ?_ GE606.out|refine bS ?_ GE621.out|refine bS ?_ GE628.out|refine bS ?_ GE636.out|refine bS ?_ GE664.out)|exact HB.out)⟩
              ·replace c149:=Bool.eq_false_iff.mpr c149
               subst c149
               have H1:((laws_heldAddr.f kj105 t629 t649 t633 t634 1).bind fun t666=>(if t666 < 0 then (some false) else (if t666 = t648 then (some true) else (some false)))) = some r:=by rw [if_neg (show ¬ (false = true) by decide)] at H;exact H
               clear H
               have H:=H1
               clear H1
               replace H:=bI H
               obtain ⟨t666,A1500,H⟩:=H
               replace H:(if t666 < 0 then (some false) else (if t666 = t648 then (some true) else (some false))) = some r:=H
               have A150:=Am A1500
               clear A1500
               by_cases c151:t666 < 0
               ·rw [if_pos c151] at H
                have c151b0:decide (t666 < 0) = true:=decide_eq_true c151
                clear c151
                obtain rfl:=Option.some.inj H
                have hnb152:=NB636_606.out
                have hnc152:=NB606_636.out
                have hnb153:=NB636_621.out
                have hnc153:=NB621_636.out
                have hnb154:=NB636_628.out
                have hnc154:=NB628_636.out
                have hnb155:=NB636_664.out
                have hnc155:=NB664_636.out
                have hcz156_0:wc.cell? ⟨gb636,0,none⟩ = some (.string t629):=bM BK636.out 0 rfl
                have hcz156_1:wc.cell? ⟨gb636,1,none⟩ = some (.slice Ao39 t649.length co39):=bM BK636.out 1 rfl
                have hcz156_2:wc.cell? ⟨gb636,2,none⟩ = some (.bool t633):=bM BK636.out 2 rfl
                have hcz156_3:wc.cell? ⟨gb636,3,none⟩ = some (.string t634):=bM BK636.out 3 rfl
                have hfz156_0:=bZ BK636.out 0
                have hfz156_1:=bZ BK636.out 1
                have hfz156_2:=bZ BK636.out 2
                have hfz156_3:=bZ BK636.out 3
                go_wp2_with (first|((with_reducible refine gate_callee (f:=23) rfl ?_);refine goesL_ (some 98) rfl rfl Tryd.func23 (by kernel_rfl) rfl #[.agg #[.string t629, .slice Ao39 t649.length co39, .bool t633, .string t634], .int .i64 1] rfl (aE2 rfl rfl) ?_;(with_reducible refine (laws_heldAddr.calls kj105 t629 _ _ t649 t633 t634 1 t666 _ ?side1 ?side2 A150.out).mono ?_);(case side1=>repeat (first|exact (Kd.R_reads' HO_637001.out).2.2|(with_reducible refine bC ?_)));(case side2=>exact (Kd.R_reads' HO_637001.out).2.1);rintro e w157 ⟨rfl,hb⟩;refine ⟨_,rfl,?_⟩;have n0_:=Am (Kd.R_below (bR HO_622001.out) hb);have n1_:=Am (Kd.R_below (bR HO_629001.out) hb);have n2_:=Am (Kd.R_below (bR HO_637001.out) hb);have n3_:=Am (Kd.R_below (bR HO_665001.out) hb);have n4_:=Am (blk_below (bB BK606.out) hb);have n5_:=Am (blk_below (bB BK621.out) hb);have n6_:=Am (blk_below (bB BK628.out) hb);have n7_:=Am (blk_below (bB BK636.out) hb);have n8_:=Am (blk_below (bB BK664.out) hb);have n9_:=Am (bT (by repeat (first|(with_reducible first|exact HB.out|apply bA|apply bN|apply bD|refine bS ?_ GE606.out|refine bS ?_ GE621.out|refine bS ?_ GE628.out|refine bS ?_ GE636.out|refine bS ?_ GE664.out)|exact HB.out)) hb);clear HO_622001 HO_629001 HO_637001 HO_665001 BK606 BK621 BK628 BK636 BK664 HB;have HO_622001:=n0_;have HO_629001:=n1_;have HO_637001:=n2_;have HO_665001:=n3_;have BK606:=n4_;have BK621:=n5_;have BK628:=n6_;have BK636:=n7_;have BK664:=n8_;have HB:=n9_;clear n0_ n1_ n2_ n3_ n4_ n5_ n6_ n7_ n8_ n9_;(try clear hb)))
                go_ret
                exact ⟨by first|rfl|(simp <;> rfl)|(simp [*] <;> rfl),by repeat (first|(with_reducible first|exact HB.out|apply bA|apply bN|apply bD|refine bS ?_ GE606.out|refine bS ?_ GE621.out|refine bS ?_ GE628.out|refine bS ?_ GE636.out|refine bS ?_ GE664.out)|exact HB.out)⟩
               ·rw [if_neg c151] at H
                have c151b0:decide (t666 < 0) = false:=decide_eq_false c151
                clear c151
                by_cases c158:t666 = t648
                ·rw [if_pos c158] at H
                 have c158b0:(t666 == t648) = true:=beq_iff_eq.mpr c158
                 have c158b1:(t666 != t648) = false:=bne_eq_false_iff_eq.mpr c158
                 clear c158
                 obtain rfl:=Option.some.inj H
                 have hnb159:=NB636_606.out
                 have hnc159:=NB606_636.out
                 have hnb160:=NB636_621.out
                 have hnc160:=NB621_636.out
                 have hnb161:=NB636_628.out
                 have hnc161:=NB628_636.out
                 have hnb162:=NB636_664.out
                 have hnc162:=NB664_636.out
                 have hcz163_0:wc.cell? ⟨gb636,0,none⟩ = some (.string t629):=bM BK636.out 0 rfl
                 have hcz163_1:wc.cell? ⟨gb636,1,none⟩ = some (.slice Ao39 t649.length co39):=bM BK636.out 1 rfl
                 have hcz163_2:wc.cell? ⟨gb636,2,none⟩ = some (.bool t633):=bM BK636.out 2 rfl
                 have hcz163_3:wc.cell? ⟨gb636,3,none⟩ = some (.string t634):=bM BK636.out 3 rfl
                 have hfz163_0:=bZ BK636.out 0
                 have hfz163_1:=bZ BK636.out 1
                 have hfz163_2:=bZ BK636.out 2
                 have hfz163_3:=bZ BK636.out 3
                 go_wp2_with (first|((with_reducible refine gate_callee (f:=23) rfl ?_);refine goesL_ (some 98) rfl rfl Tryd.func23 (by kernel_rfl) rfl #[.agg #[.string t629, .slice Ao39 t649.length co39, .bool t633, .string t634], .int .i64 1] rfl (aE2 rfl rfl) ?_;(with_reducible refine (laws_heldAddr.calls kj105 t629 _ _ t649 t633 t634 1 t666 _ ?side1 ?side2 A150.out).mono ?_);(case side1=>repeat (first|exact (Kd.R_reads' HO_637001.out).2.2|(with_reducible refine bC ?_)));(case side2=>exact (Kd.R_reads' HO_637001.out).2.1);rintro e w164 ⟨rfl,hb⟩;refine ⟨_,rfl,?_⟩;have n0_:=Am (Kd.R_below (bR HO_622001.out) hb);have n1_:=Am (Kd.R_below (bR HO_629001.out) hb);have n2_:=Am (Kd.R_below (bR HO_637001.out) hb);have n3_:=Am (Kd.R_below (bR HO_665001.out) hb);have n4_:=Am (blk_below (bB BK606.out) hb);have n5_:=Am (blk_below (bB BK621.out) hb);have n6_:=Am (blk_below (bB BK628.out) hb);have n7_:=Am (blk_below (bB BK636.out) hb);have n8_:=Am (blk_below (bB BK664.out) hb);have n9_:=Am (bT (by repeat (first|(with_reducible first|exact HB.out|apply bA|apply bN|apply bD|refine bS ?_ GE606.out|refine bS ?_ GE621.out|refine bS ?_ GE628.out|refine bS ?_ GE636.out|refine bS ?_ GE664.out)|exact HB.out)) hb);clear HO_622001 HO_629001 HO_637001 HO_665001 BK606 BK621 BK628 BK636 BK664 HB;have HO_622001:=n0_;have HO_629001:=n1_;have HO_637001:=n2_;have HO_665001:=n3_;have BK606:=n4_;have BK621:=n5_;have BK628:=n6_;have BK636:=n7_;have BK664:=n8_;have HB:=n9_;clear n0_ n1_ n2_ n3_ n4_ n5_ n6_ n7_ n8_ n9_;(try clear hb)))
                 go_ret
                 exact ⟨by first|rfl|(simp <;> rfl)|(simp [*] <;> rfl),by repeat (first|(with_reducible first|exact HB.out|apply bA|apply bN|apply bD|refine bS ?_ GE606.out|refine bS ?_ GE621.out|refine bS ?_ GE628.out|refine bS ?_ GE636.out|refine bS ?_ GE664.out)|exact HB.out)⟩
                ·rw [if_neg c158] at H
                 have c158b0:(t666 == t648) = false:=beq_eq_false_iff_ne.mpr c158
                 have c158b1:(t666 != t648) = true:=bne_iff_ne.mpr c158
                 obtain rfl:=Option.some.inj H
                 have hnb165:=NB636_606.out
                 have hnc165:=NB606_636.out
                 have hnb166:=NB636_621.out
                 have hnc166:=NB621_636.out
                 have hnb167:=NB636_628.out
                 have hnc167:=NB628_636.out
                 have hnb168:=NB636_664.out
                 have hnc168:=NB664_636.out
                 have hcz169_0:wc.cell? ⟨gb636,0,none⟩ = some (.string t629):=bM BK636.out 0 rfl
                 have hcz169_1:wc.cell? ⟨gb636,1,none⟩ = some (.slice Ao39 t649.length co39):=bM BK636.out 1 rfl
                 have hcz169_2:wc.cell? ⟨gb636,2,none⟩ = some (.bool t633):=bM BK636.out 2 rfl
                 have hcz169_3:wc.cell? ⟨gb636,3,none⟩ = some (.string t634):=bM BK636.out 3 rfl
                 have hfz169_0:=bZ BK636.out 0
                 have hfz169_1:=bZ BK636.out 1
                 have hfz169_2:=bZ BK636.out 2
                 have hfz169_3:=bZ BK636.out 3
                 go_wp2_with (first|((with_reducible refine gate_callee (f:=23) rfl ?_);refine goesL_ (some 98) rfl rfl Tryd.func23 (by kernel_rfl) rfl #[.agg #[.string t629, .slice Ao39 t649.length co39, .bool t633, .string t634], .int .i64 1] rfl (aE2 rfl rfl) ?_;(with_reducible refine (laws_heldAddr.calls kj105 t629 _ _ t649 t633 t634 1 t666 _ ?side1 ?side2 A150.out).mono ?_);(case side1=>repeat (first|exact (Kd.R_reads' HO_637001.out).2.2|(with_reducible refine bC ?_)));(case side2=>exact (Kd.R_reads' HO_637001.out).2.1);rintro e w170 ⟨rfl,hb⟩;refine ⟨_,rfl,?_⟩;have n0_:=Am (Kd.R_below (bR HO_622001.out) hb);have n1_:=Am (Kd.R_below (bR HO_629001.out) hb);have n2_:=Am (Kd.R_below (bR HO_637001.out) hb);have n3_:=Am (Kd.R_below (bR HO_665001.out) hb);have n4_:=Am (blk_below (bB BK606.out) hb);have n5_:=Am (blk_below (bB BK621.out) hb);have n6_:=Am (blk_below (bB BK628.out) hb);have n7_:=Am (blk_below (bB BK636.out) hb);have n8_:=Am (blk_below (bB BK664.out) hb);have n9_:=Am (bT (by repeat (first|(with_reducible first|exact HB.out|apply bA|apply bN|apply bD|refine bS ?_ GE606.out|refine bS ?_ GE621.out|refine bS ?_ GE628.out|refine bS ?_ GE636.out|refine bS ?_ GE664.out)|exact HB.out)) hb);clear HO_622001 HO_629001 HO_637001 HO_665001 BK606 BK621 BK628 BK636 BK664 HB;have HO_622001:=n0_;have HO_629001:=n1_;have HO_637001:=n2_;have HO_665001:=n3_;have BK606:=n4_;have BK621:=n5_;have BK628:=n6_;have BK636:=n7_;have BK664:=n8_;have HB:=n9_;clear n0_ n1_ n2_ n3_ n4_ n5_ n6_ n7_ n8_ n9_;(try clear hb)))
                 go_ret
                 exact ⟨by first|rfl|(simp <;> rfl)|(simp [*] <;> rfl),by repeat (first|(with_reducible first|exact HB.out|apply bA|apply bN|apply bD|refine bS ?_ GE606.out|refine bS ?_ GE621.out|refine bS ?_ GE628.out|refine bS ?_ GE636.out|refine bS ?_ GE664.out)|exact HB.out)⟩
           ·rw [if_neg c103] at H
            have c103b0:(t650 == t648) = false:=beq_eq_false_iff_ne.mpr c103
            have c103b1:(t650 != t648) = true:=bne_iff_ne.mpr c103
            obtain rfl:=Option.some.inj H
            have hnb171:=NB636_606.out
            have hnc171:=NB606_636.out
            have hnb172:=NB636_621.out
            have hnc172:=NB621_636.out
            have hnb173:=NB636_628.out
            have hnc173:=NB628_636.out
            have hcz174_0:wc.cell? ⟨gb636,0,none⟩ = some (.string t629):=bM BK636.out 0 rfl
            have hcz174_1:wc.cell? ⟨gb636,1,none⟩ = some (.slice Ao39 t630.length co39):=bM BK636.out 1 rfl
            have hcz174_2:wc.cell? ⟨gb636,2,none⟩ = some (.bool t633):=bM BK636.out 2 rfl
            have hcz174_3:wc.cell? ⟨gb636,3,none⟩ = some (.string t634):=bM BK636.out 3 rfl
            have hfz174_0:=bZ BK636.out 0
            have hfz174_1:=bZ BK636.out 1
            have hfz174_2:=bZ BK636.out 2
            have hfz174_3:=bZ BK636.out 3
            go_wp2_with (first|((with_reducible refine gate_callee (f:=22) rfl ?_);refine goesL_ (some 71) rfl rfl Tryd.func22 (by kernel_rfl) rfl #[.agg #[.string t629, .slice Ao39 t630.length co39, .bool t633, .string t634], .int .i64 1] rfl (aE2 rfl rfl) ?_;(with_reducible refine (laws_markAddr.calls kj62 t629 (fun k_=>some k_ = (.slice Ao39 t630.length co39:Value).ownBlock) (.slice Ao39 t630.length co39) t630 t633 t634 1 t648 t649 w _ ?side1 ?side2 A93.out).mono ?_);(case side1=>repeat (first|(with_reducible first|exact HB.out|apply bA|apply bN|apply bD|refine bS ?_ GE606.out|refine bS ?_ GE621.out|refine bS ?_ GE628.out|refine bS ?_ GE636.out)|exact HB.out));(case side2=>exact Kd.R_tight rfl HO_637001.out);rintro e w175 ⟨rfl,hy0,hb,hkp⟩;refine ⟨_,rfl,?_⟩;have n0_:=Am (Kd.R_mono (ok':=fun k_=>some k_ ≠ (.slice Ao32 t646.length co32:Value).ownBlock ∧ some k_ ≠ (.slice Ao39 t630.length co39:Value).ownBlock) (Kd.R_keptB (HO_622001.out) hkp (fun k_ hk_ hs_=>(hk_.2) hs_)) (fun k_ hk_=>⟨hk_.1.1,hk_.1.2⟩));have n1_:=Am (Kd.R_mono (ok':=fun k_=>some k_ ≠ (.slice Ao25 t615.length co25:Value).ownBlock ∧ some k_ ≠ (.slice Ao39 t630.length co39:Value).ownBlock) (Kd.R_keptB (HO_629001.out) hkp (fun k_ hk_ hs_=>(hk_.2) hs_)) (fun k_ hk_=>⟨hk_.1.1,hk_.1.2⟩));have n2_:=Am (Kd.R_reok rfl hy0 (fun k_ e_=>HO_637001.out.1 k_ e_));have n3_:=Am (blk_kept (bB BK606.out) hkp (fun hs_=>(fun e_=>(Kd.R_ne HO_637001.out BK606.out (by decide)) e_) hs_));have n4_:=Am (blk_kept (bB BK621.out) hkp (fun hs_=>(fun e_=>(Kd.R_ne HO_637001.out BK621.out (by decide)) e_) hs_));have n5_:=Am (blk_kept (bB BK628.out) hkp (fun hs_=>(fun e_=>(Kd.R_ne HO_637001.out BK628.out (by decide)) e_) hs_));have n6_:=Am (blk_kept (bB BK636.out) hkp (fun hs_=>(fun e_=>(Kd.R_ne HO_637001.out BK636.out (by decide)) e_) hs_));have n7_:=Am (hb);clear HO_622001 HO_629001 HO_637001 BK606 BK621 BK628 BK636 HB;have HO_622001:=n0_;have HO_629001:=n1_;have HO_637001:=n2_;have BK606:=n3_;have BK621:=n4_;have BK628:=n5_;have BK636:=n6_;have HB:=n7_;clear n0_ n1_ n2_ n3_ n4_ n5_ n6_ n7_;(try clear hb);(try clear hkp);(try clear hy0);have hcz176_0:w175.cell? ⟨gb636,0,none⟩ = some (.string t629):=bM BK636.out 0 rfl;have hcz176_1:w175.cell? ⟨gb636,1,none⟩ = some (.slice Ao39 t630.length co39):=bM BK636.out 1 rfl;have hcz176_2:w175.cell? ⟨gb636,2,none⟩ = some (.bool t633):=bM BK636.out 2 rfl;have hcz176_3:w175.cell? ⟨gb636,3,none⟩ = some (.string t634):=bM BK636.out 3 rfl;have hfz176_0:=bZ BK636.out 0;have hfz176_1:=bZ BK636.out 1;have hfz176_2:=bZ BK636.out 2;have hfz176_3:=bZ BK636.out 3)|((with_reducible refine gate_callee (f:=23) rfl ?_);refine goesL_ (some 74) rfl rfl Tryd.func23 (by kernel_rfl) rfl #[.agg #[.string t629, .slice Ao39 t649.length co39, .bool t633, .string t634], .int .i64 1] rfl (by (try simp only [List.map_toArray,List.map_cons,List.map_nil]);first|done|(rw [show t649.length = t630.length from (Kd.R_reads' HO_637001.out).1.symm] <;> rfl)|rfl|(simp only [List.length_drop,List.length_take];rfl)) ?_;(with_reducible refine (laws_heldAddr.calls kj62 t629 _ _ t649 t633 t634 1 t650 _ ?side1 ?side2 A94.out).mono ?_);(case side1=>repeat (first|exact (Kd.R_reads' HO_637001.out).2.2|(with_reducible refine bC ?_)));(case side2=>rw [show t649.length = t630.length from (Kd.R_reads' HO_637001.out).1.symm];exact (Kd.R_reads' HO_637001.out).2.1);rintro e w177 ⟨rfl,hb⟩;refine ⟨_,rfl,?_⟩;have n0_:=Am (Kd.R_below (bR HO_622001.out) hb);have n1_:=Am (Kd.R_below (bR HO_629001.out) hb);have n2_:=Am (Kd.R_below (bR HO_637001.out) hb);have n3_:=Am (blk_below (bB BK606.out) hb);have n4_:=Am (blk_below (bB BK621.out) hb);have n5_:=Am (blk_below (bB BK628.out) hb);have n6_:=Am (blk_below (bB BK636.out) hb);have n7_:=Am (bT (by repeat (first|(with_reducible first|exact HB.out|apply bA|apply bN|apply bD|refine bS ?_ GE606.out|refine bS ?_ GE621.out|refine bS ?_ GE628.out|refine bS ?_ GE636.out)|exact HB.out)) hb);clear HO_622001 HO_629001 HO_637001 BK606 BK621 BK628 BK636 HB;have HO_622001:=n0_;have HO_629001:=n1_;have HO_637001:=n2_;have BK606:=n3_;have BK621:=n4_;have BK628:=n5_;have BK636:=n6_;have HB:=n7_;clear n0_ n1_ n2_ n3_ n4_ n5_ n6_ n7_;(try clear hb)))
            go_ret
            exact ⟨by first|rfl|(simp <;> rfl)|(simp [*] <;> rfl),by repeat (first|(with_reducible first|exact HB.out|apply bA|apply bN|apply bD|refine bS ?_ GE606.out|refine bS ?_ GE621.out|refine bS ?_ GE628.out|refine bS ?_ GE636.out)|exact HB.out)⟩
      ·replace c61:=Bool.eq_false_iff.mpr c61
       subst c61
       have H1:(some false) = some r:=by rw [if_neg (show ¬ (false = true) by decide)] at H;exact H
       clear H
       have H:=H1
       clear H1
       obtain rfl:=Option.some.inj H
       try go_wp2
       have n0_:=Am (Kd.R_drew HO_622001.out)
       have n1_:=Am (Kd.R_drew HO_629001.out)
       have n2_:=Am (Kd.R_drew HO_637001.out)
       have n3_:=Am (blk_drew BK606.out)
       have n4_:=Am (blk_drew BK621.out)
       have n5_:=Am (blk_drew BK628.out)
       have n6_:=Am (blk_drew BK636.out)
       have n7_:=Am (below_drew1 HB.out)
       clear HO_622001
       clear HO_629001
       clear HO_637001
       clear BK606
       clear BK621
       clear BK628
       clear BK636
       clear HB
       have HO_622001:=n0_
       have HO_629001:=n1_
       have HO_637001:=n2_
       have BK606:=n3_
       have BK621:=n4_
       have BK628:=n5_
       have BK636:=n6_
       have HB:=n7_
       clear n0_ n1_ n2_ n3_ n4_ n5_ n6_ n7_
       refine start_ (n:=5) (S:=fun w'=>w'.cell? ⟨gb628,0,none⟩ = some (.string t622) ∧ w'.cell? ⟨gb628,1,none⟩ = some (.slice Ao32 t623.length co32) ∧ w'.cell? ⟨gb628,2,none⟩ = some (.bool t626) ∧ w'.cell? ⟨gb628,3,none⟩ = some (.string t627) ∧ w'.cell? ⟨gb606,0,none⟩ = some (.string a0_0) ∧ w'.cell? ⟨gb606,1,none⟩ = some (.slice A0_1 l0_1.length c0_1) ∧ w'.cell? ⟨gb606,2,none⟩ = some (.bool a0_2) ∧ w'.cell? ⟨gb606,3,none⟩ = some (.string a0_3)) (ds:=[]) #[false,false,false,false,false] (by kernel_rfl) rfl rfl ⟨bM BK628.out 0 rfl,bM BK628.out 1 rfl,bM BK628.out 2 rfl,bM BK628.out 3 rfl,bM BK606.out 0 rfl,bM BK606.out 1 rfl,bM BK606.out 2 rfl,bM BK606.out 3 rfl⟩ (fun hHeld=>?_)
       generalize wc.drew = w178 at HO_622001 HO_629001 HO_637001 BK606 BK621 BK628 BK636 HB hHeld ⊢
       refine take_ (i:=0) (N:=some 48) (v:=?_) (a':=?_) #[true,false,false,false,false] rfl rfl (by kernel_rfl) (fun _ _ _ h=>h) (Or.inl ⟨by rfl,?_⟩) hHeld ?_ ?_
       rotate_left
       ·rintro w' ⟨s0,s1,s2,s3,s4,s5,s6,s7⟩
        go_simp
        with_reducible rfl
       rotate_left
       ·simp only [Act.put,List.setIfInBounds_toArray,List.set_cons_zero,List.set_cons_succ,i64_w,i32_w]
        rfl
       refine take_ (i:=1) (N:=some 49) (v:=?_) (a':=?_) #[true,true,false,false,false] rfl rfl (by kernel_rfl) (fun _ _ _ h=>h) (Or.inl ⟨by rfl,?_⟩) hHeld ?_ ?_
       rotate_left
       ·rintro w' ⟨s0,s1,s2,s3,s4,s5,s6,s7⟩
        go_simp
        with_reducible rfl
       rotate_left
       ·simp only [Act.put,List.setIfInBounds_toArray,List.set_cons_zero,List.set_cons_succ,i64_w,i32_w]
        rfl
       refine one_ (i:=2) (N:=some 50) #[true,true,true,false,false] rfl rfl (by kernel_rfl) (by decide) (fun K hK=>?_)
       refine goes_ Tryd.func20 (by kernel_rfl) rfl #[.agg #[.string a0_0, .slice A0_1 l0_1.length c0_1, .bool a0_2, .string a0_3]] (by rfl) rfl rfl (by (try simp only [List.map_toArray,List.map_cons,List.map_nil]);first|done|rfl|(simp only [List.length_drop,List.length_take];rfl)) ?_
       with_reducible refine (laws_toAddr.calls kj13 a0_0 _ _ l0_1 a0_2 a0_3 t638 t639 t642 t643 _ ?side1 ?side2 A59.out).mono ?_
       (case side1=>repeat (first|exact (Kd.C_below HR0_1.out HB.out)|(with_reducible refine bC ?_)))
       (case side2=>exact HC0_1.out)
       rintro e w179 ⟨v640,rfl,ho0,hb⟩
       refine ⟨_,rfl,?_⟩
       have n0_:=Am (Kd.R_elder' (bR HO_622001.out) (Kd.R_base ho0) hb)
       have n1_:=Am (Kd.R_elder' (bR HO_629001.out) (Kd.R_base ho0) hb)
       have n2_:=Am (Kd.R_elder' (bR HO_637001.out) (Kd.R_base ho0) hb)
       have n3_:=Am (Kd.R_lower (Kd.R_new' (Kd.R_new' (Kd.R_new' ho0 (Kd.R_lt (bR HO_622001.out))) (Kd.R_lt (bR HO_629001.out))) (Kd.R_lt (bR HO_637001.out))) (bU (by repeat (first|(with_reducible first|exact HB.out|apply bA|apply bN|apply bD|refine bS ?_ GE606.out|refine bS ?_ GE621.out|refine bS ?_ GE628.out|refine bS ?_ GE636.out)|exact HB.out))))
       have n4_:=Am (blk_below (bB BK606.out) hb)
       have n5_:=Am (blk_below (bB BK621.out) hb)
       have n6_:=Am (blk_below (bB BK628.out) hb)
       have n7_:=Am (blk_below (bB BK636.out) hb)
       have n8_:=Am (bT (by repeat (first|(with_reducible first|exact HB.out|apply bA|apply bN|apply bD|refine bS ?_ GE606.out|refine bS ?_ GE621.out|refine bS ?_ GE628.out|refine bS ?_ GE636.out)|exact HB.out)) hb)
       clear HO_622001
       clear HO_629001
       clear HO_637001
       clear BK606
       clear BK621
       clear BK628
       clear BK636
       clear HB
       have HO_622001:=n0_
       have HO_629001:=n1_
       have HO_637001:=n2_
       have HO641:=n3_
       have BK606:=n4_
       have BK621:=n5_
       have BK628:=n6_
       have BK636:=n7_
       have HB:=n8_
       clear n0_ n1_ n2_ n3_ n4_ n5_ n6_ n7_ n8_
       (try clear hb)
       (try clear hb2)
       (try clear hk)
       (try clear hi)
       (try clear ho0)
       obtain ⟨Ao180,co180,eo180⟩:=Kd.R_slice HO641.out
       (first|subst eo180|(injection eo180 with f1_ f2_ f3_;have f4_:=f1_.symm;have f5_:=f3_.symm;clear f1_ f2_ f3_;subst f4_;subst f5_))
       refine hK.out _ _ ⟨bM BK628.out 0 rfl,bM BK628.out 1 rfl,bM BK628.out 2 rfl,bM BK628.out 3 rfl,bM BK606.out 0 rfl,bM BK606.out 1 rfl,bM BK606.out 2 rfl,bM BK606.out 3 rfl⟩ (fun hHeld=>?_)
       clear hK K
       refine norm_ (a':=?_) ?_ ?_
       rotate_left
       ·show Act.put _ (some 50) _ = _
        simp only [Act.put,List.setIfInBounds_toArray,List.set_cons_zero,List.set_cons_succ,i64_w,i32_w]
        rfl
       refine one_ (i:=3) (N:=some 51) #[true,true,true,true,false] rfl rfl (by kernel_rfl) (by decide) (fun K hK=>?_)
       refine goes_ Tryd.func21 (by kernel_rfl) rfl #[.agg #[.string t622, .slice Ao32 t623.length co32, .bool t626, .string t627], .agg #[.string t638, .slice Ao180 t639.length co180, .bool t642, .string t643]] (by rfl) rfl rfl (by (try simp only [List.map_toArray,List.map_cons,List.map_nil]);first|done|rfl|(simp only [List.length_drop,List.length_take];rfl)) ?_
       with_reducible refine (laws_eqAddr.calls kj13 t622 _ _ t623 t626 t627 t638 _ _ t639 t642 t643 false _ ?side1 ?side2 ?side3 ?side4 A60.out).mono ?_
       (case side1=>repeat (first|exact (Kd.R_reads' HO_629001.out).2.2|(with_reducible refine bC ?_)))
       (case side2=>exact (Kd.R_reads' HO_629001.out).2.1)
       (case side3=>repeat (first|exact (Kd.R_reads' HO641.out).2.2|(with_reducible refine bC ?_)))
       (case side4=>exact (Kd.R_reads' HO641.out).2.1)
       rintro e w181 ⟨rfl,hb⟩
       refine ⟨_,rfl,?_⟩
       have n0_:=Am (Kd.R_below (bR HO_622001.out) hb)
       have n1_:=Am (Kd.R_below (bR HO_629001.out) hb)
       have n2_:=Am (Kd.R_below (bR HO_637001.out) hb)
       have n3_:=Am (Kd.R_below (bR HO641.out) hb)
       have n4_:=Am (blk_below (bB BK606.out) hb)
       have n5_:=Am (blk_below (bB BK621.out) hb)
       have n6_:=Am (blk_below (bB BK628.out) hb)
       have n7_:=Am (blk_below (bB BK636.out) hb)
       have n8_:=Am (bT (by repeat (first|(with_reducible first|exact HB.out|apply bA|apply bN|apply bD|refine bS ?_ GE606.out|refine bS ?_ GE621.out|refine bS ?_ GE628.out|refine bS ?_ GE636.out)|exact HB.out)) hb)
       clear HO_622001
       clear HO_629001
       clear HO_637001
       clear HO641
       clear BK606
       clear BK621
       clear BK628
       clear BK636
       clear HB
       have HO_622001:=n0_
       have HO_629001:=n1_
       have HO_637001:=n2_
       have HO641:=n3_
       have BK606:=n4_
       have BK621:=n5_
       have BK628:=n6_
       have BK636:=n7_
       have HB:=n8_
       clear n0_ n1_ n2_ n3_ n4_ n5_ n6_ n7_ n8_
       (try clear hb)
       (try clear hb2)
       (try clear hk)
       (try clear hi)
       refine hK.out _ _ ⟨bM BK628.out 0 rfl,bM BK628.out 1 rfl,bM BK628.out 2 rfl,bM BK628.out 3 rfl,bM BK606.out 0 rfl,bM BK606.out 1 rfl,bM BK606.out 2 rfl,bM BK606.out 3 rfl⟩ (fun hHeld=>?_)
       clear hK K
       refine norm_ (a':=?_) ?_ ?_
       rotate_left
       ·show Act.put _ (some 51) _ = _
        simp only [Act.put,List.setIfInBounds_toArray,List.set_cons_zero,List.set_cons_succ,i64_w,i32_w]
        rfl
       refine pure_ (i:=4) (N:=some 52) (v:=?_) (a':=?_) #[true,true,true,true,true] rfl rfl (by kernel_rfl) (fun _ _ _ h=>h) (Or.inl ⟨by rfl,?_⟩) ?_ ?_
       rotate_left
       ·intro w'
        go_simp
        with_reducible rfl
       rotate_left
       ·simp only [Act.put,List.setIfInBounds_toArray,List.set_cons_zero,List.set_cons_succ,i64_w,i32_w]
        rfl
       refine done_ (by kernel_rfl) ?_
       try go_wp2
       go_ret
       exact ⟨by first|rfl|(simp <;> rfl)|(simp [*] <;> rfl),by repeat (first|(with_reducible first|exact HB.out|apply bA|apply bN|apply bD|refine bS ?_ GE606.out|refine bS ?_ GE621.out|refine bS ?_ GE628.out|refine bS ?_ GE636.out)|exact HB.out)⟩

end Go.Proofs.YtbnnamjaljohiaaDoor.P
