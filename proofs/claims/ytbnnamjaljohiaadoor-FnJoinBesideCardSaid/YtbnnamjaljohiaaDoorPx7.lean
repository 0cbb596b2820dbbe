-- Written by a program of this session (patch_print.py over the kit's print; given texts in wip/given).
-- Cut down by a program of this session (wip/tools/prune.py) to what its claim can name.
import Derived.Test.YtbnnamjaljohiaaDoorSq
import Derived.Test.YtbnnamjaljohiaaDoorPx0
import Derived.Test.YtbnnamjaljohiaaDoorPx5
import Derived.Test.YtbnnamjaljohiaaDoorPx6
namespace Go.Proofs.YtbnnamjaljohiaaDoor.P
open Go.RowKit Go.Proofs.YtbnnamjaljohiaaDoorW.PrintWords Go.Proofs.YtbnnamjaljohiaaDoorW.PrintLast Go.Proofs.YtbnnamjaljohiaaDoorW.PrintMore
attribute [local go_sem] max2_int min2_int max_two min_two max_three min_three max_four min_four   -- for this text's walks alone
set_option linter.unusedVariables false
set_option linter.unusedSimpArgs false
set_option maxHeartbeats 8000000
set_option maxRecDepth 100000

/-! ### impl_AddrJoin: function 13 -/
def impl_AddrJoin.j0:Nat → ByteArray → Bool → ByteArray → List ByteArray → Bool → ByteArray → Option (ByteArray × List ByteArray × Bool × ByteArray × Bool)
 | 0,_,_,_,_,_,_=>none
 | k + 1,x1,x16,x502000,x502001,x502002,x502003=>if x16 = true then (some ((⟨#[]⟩:ByteArray),([]:List ByteArray),false,(⟨#[]⟩:ByteArray),false)) else ((strings_Cut.f x1 (⟨#[35]⟩:ByteArray)).bind fun bt504=>((strings_HasPrefix.f bt504.1 (⟨#[47,47]⟩:ByteArray)).bind fun t507=>(if t507 = true then ((impl_readWhole.f k bt504.1).bind fun bt508=>(some (bt508.1,bt508.2.1,bt508.2.2.1,bt508.2.2.2.1,bt508.2.2.2.2))) else (if bt504.1.toList = ([]:List UInt8) then ((slices_Clone_string_string.f x502001).bind fun t515=>(some (x502000,t515,x502002,x502003,true))) else (if 0 < (bt504.1.size:Int) then (if (bt bt504.1 0) = 47 then ((impl_readWay.f k x502000 ([]:List ByteArray) bt504.1).bind fun bt518=>(some (bt518.1,bt518.2.1,bt518.2.2.1,bt518.2.2.2.1,bt518.2.2.2.2))) else (if (bt bt504.1 0) = 63 then ((impl_readWay.f k x502000 x502001 bt504.1).bind fun bt525=>(some (bt525.1,bt525.2.1,bt525.2.2.1,bt525.2.2.2.1,bt525.2.2.2.2))) else (if 0 ≤ (mx (wrap64 ((x502001.length:Int) - 1)) 0) then (if (mx (wrap64 ((x502001.length:Int) - 1)) 0) ≤ (x502001.length:Int) then ((impl_readWay.f k x502000 (x502001.take ((mx (wrap64 ((x502001.length:Int) - 1)) 0):Int).toNat) bt504.1).bind fun bt533=>(some (bt533.1,bt533.2.1,bt533.2.2.1,bt533.2.2.2.1,bt533.2.2.2.2))) else (none)) else (none)))) else (none))))))
def impl_AddrJoin.f (k:Nat) (a0_0:ByteArray) (l0_1:List ByteArray) (a0_2:Bool) (a0_3:ByteArray) (a1:ByteArray):Option (ByteArray × List ByteArray × Bool × ByteArray × Bool):=if (a1.size:Int) > 60 then (impl_AddrJoin.j0 k a1 true a0_0 l0_1 a0_2 a0_3) else ((impl_AddrOk.f k a0_0 l0_1 a0_2 a0_3).bind fun t503=>(impl_AddrJoin.j0 k a1 (!t503) a0_0 l0_1 a0_2 a0_3))
theorem impl_AddrJoin.mono_l:∀ k,(∀ y0 y1 y2 y3 y4 y5,LeO (impl_AddrJoin.j0 k y0 y1 y2 y3 y4 y5) (impl_AddrJoin.j0 (k + 1) y0 y1 y2 y3 y4 y5))
 | 0=>fun _ _ _ _ _ _ r h=>by simp [impl_AddrJoin.j0] at h
 | k + 1=>by
  have ih0:=impl_AddrJoin.mono_l k
  ·intro y0 y1 y2 y3 y4 y5
   unfold impl_AddrJoin.j0
   repeat' first
   | (with_reducible apply ih0)
   | (with_reducible apply impl_AddrOk.mono)
   | (with_reducible apply impl_readWay.mono)
   | (with_reducible apply impl_readWhole.mono)
   | (with_reducible exact LeO.refl _)
   | (with_reducible exact LeO.none _)
   | (with_reducible refine LeO.ite ?_ ?_)
   | (with_reducible refine LeO.bind ?_ (fun _=>?_))







theorem impl_AddrJoin.mono:∀ a0 a1 a2 a3 a4 k,LeO (impl_AddrJoin.f k a0 a1 a2 a3 a4) (impl_AddrJoin.f (k + 1) a0 a1 a2 a3 a4):=by
 intro a0 a1 a2 a3 a4 k
 have ih0:=impl_AddrJoin.mono_l k
 unfold impl_AddrJoin.f
 repeat' first
   | (with_reducible apply ih0)
   | (with_reducible apply impl_AddrOk.mono)
   | (with_reducible apply impl_readWay.mono)
   | (with_reducible apply impl_readWhole.mono)
   | (with_reducible exact LeO.refl _)
   | (with_reducible exact LeO.none _)
   | (with_reducible refine LeO.ite ?_ ?_)
   | (with_reducible refine LeO.bind ?_ (fun _=>?_))







def impl_AddrJoin.T13:Bool × List (List Nat × List Nat):=(true,[([],[]),([0],[0]),([],[]),([2],[2]),([],[]),([4],[4]),([5],[5]),([6],[6]),([7],[7]),([3,8],[3,8]),([],[]),([1,9,10],[1,9,10]),([11],[11]),([11],[11]),([12,11,0,1,2,3,4,5,6,7,8,9,10,11,12,13],[12]),([13,14,0,1,2,3,4,5,6,7,8,9,10,11,12,13,14],[13])])
def impl_AddrJoin.B13:List Nat:=[0,1,0,4,0,16,48,112,240,508,0,2047,4095,4095,16383,32767]
theorem impl_AddrJoin.tab13:rtab .any (opsOf Tryd.f13 13) = impl_AddrJoin.T13:=by kernel_rfl
theorem impl_AddrJoin.bits13:waitsOk impl_AddrJoin.T13.2 impl_AddrJoin.B13 = true:=by kernel_rfl
theorem impl_AddrJoin.calls (k:Nat) (a0_0:ByteArray) (A0_1:Option Addr) (c0_1:Nat) (l0_1:List ByteArray) (a0_2:Bool) (a0_3:ByteArray) (a1:ByteArray) (r1:ByteArray) (r2:List ByteArray) (r3:Bool) (r4:ByteArray) (r5:Bool) (w:World) (hr0_1:Kd.C Kd.string w A0_1 l0_1.length l0_1) (hc0_1:l0_1.length ≤ c0_1) (h:impl_AddrJoin.f k a0_0 l0_1 a0_2 a0_3 a1 = some (r1,r2,r3,r4,r5)) :
  Calls Tryd.prog 13 #[.agg #[.string a0_0, .slice A0_1 l0_1.length c0_1, .bool a0_2, .string a0_3], .string a1] w fun e w'=>∃ v1_:Value,e = .returned (.tuple #[.agg #[.string r1,v1_, .bool r3, .string r4], .bool r5]) ∧ Kd.R Kd.string 9 w' w.heap.size (fun _=>True) v1_ r2 ∧ Below w.heap.size w w':=by
 have hu25:=Tryd.underlying25
 have HR0_1:=Am hr0_1
 have HC0_1:=Am hc0_1
 clear hr0_1 hc0_1
 have HB:=Am (Below.refl w.heap.size w)
 have H:(if (a1.size:Int) > 60 then (impl_AddrJoin.j0 k a1 true a0_0 l0_1 a0_2 a0_3) else ((impl_AddrOk.f k a0_0 l0_1 a0_2 a0_3).bind fun t503=>(impl_AddrJoin.j0 k a1 (!t503) a0_0 l0_1 a0_2 a0_3))) = some (r1,r2,r3,r4,r5):=h
 clear h
 have HC3:=Am H
 clear H
 go_enter Tryd.func13,Tryd.ntmps13
 go_upto_region 1 with (first|((with_reducible refine gate_dst (N:=2) rfl ?_);refine box_event ?hg (N:=2) ?hd (cs:=#[.string a0_0, .slice A0_1 l0_1.length c0_1, .bool a0_2, .string a0_3]) (t:=25) ?hr ?_;(case hd=>rfl);(case hg=>rfl);(case hr=>(go_simp <;> rfl));intro gb501 hg w4 hbox hb;have n0_:=Am (bT (by repeat (first|(with_reducible first|exact HB.out|apply bA|apply bN|apply bD)|exact HB.out)) hb);have n1_:=Am (hbox);have n2_:=Am ((by rw [hg];exact (bU (by repeat (first|(with_reducible first|exact HB.out|apply bA|apply bN|apply bD)|exact HB.out))):w.heap.size ≤ gb501));have n3_:=n2_;clear HB;have HB:=n0_;have BK501:=n1_;have GW501:=n2_;have GE501:=n3_;clear n0_ n1_ n2_ n3_ hb hbox hg)|((with_reducible refine gate_dst (N:=4) rfl ?_);refine box_event ?hg (N:=4) ?hd (cs:=#[.string (⟨#[]⟩:ByteArray), .slice none 0 0, .bool false, .string (⟨#[]⟩:ByteArray)]) (t:=25) ?hr ?_;(case hd=>rfl);(case hg=>rfl);(case hr=>(go_simp <;> rfl));intro gb502 hg w5 hbox hb;have n0_:=Am (blk_below (bB BK501.out) hb);have n1_:=Am (bT (by repeat (first|(with_reducible first|exact HB.out|apply bA|apply bN|apply bD|refine bS ?_ GE501.out)|exact HB.out)) hb);have n2_:=Am (hbox);have n3_:=Am ((by rw [hg];exact (bU (by repeat (first|(with_reducible first|exact HB.out|apply bA|apply bN|apply bD|refine bS ?_ GE501.out)|exact HB.out))):w.heap.size ≤ gb502));have n4_:=n3_;have n5_:=Am ((by rw [hg];exact Nat.ne_of_lt (blk_lt (bB BK501.out)):gb501 ≠ gb502));have n6_:=Am ((by rw [hg];exact Nat.ne_of_gt (blk_lt (bB BK501.out)):gb502 ≠ gb501));clear BK501 HB;have BK501:=n0_;have HB:=n1_;have BK502:=n2_;have GW502:=n3_;have GE502:=n4_;have NB501_502:=n5_;have NB502_501:=n6_;clear n0_ n1_ n2_ n3_ n4_ n5_ n6_ hb hbox hg))
 (try simp only [Act.put,lT,lZ,lS])
 go_cut [16] (fun v16 wc=>∃ (kq:Nat) (x16_2:Bool),v16 = .bool x16_2 ∧ Aside0 (impl_AddrJoin.j0 kq a1 x16_2 a0_0 l0_1 a0_2 a0_3 = some (r1,r2,r3,r4,r5)) ∧ Aside0 (kq ≤ k) ∧ Aside0 (wc.heap[gb501]? = some (.cells #[.string a0_0,(.slice A0_1 l0_1.length c0_1), .bool a0_2, .string a0_3] 25 (0,0))) ∧ Aside0 (wc.heap[gb502]? = some (.cells #[.string (⟨#[]⟩:ByteArray),(.slice none 0 0), .bool false, .string (⟨#[]⟩:ByteArray)] 25 (0,0))) ∧ Aside0 (Below w.heap.size w wc))
 case first =>
  have H:=HC3.out
  clear HC3
  by_cases c6:(a1.size:Int) > 60
  ·rw [if_pos c6] at H
   have c6b0:decide (60 < (a1.size:Int)) = true:=decide_eq_true c6
   have c6b1:decide (60 < a1.size) = true:=decide_eq_true (by omega)
   clear c6
   (first|rw [c6b0]|(simp only [i64_w,i32_w];rw [c6b0])|skip)
   have H':=Am H
   clear H
   go_wp2
   go_meet
   case rel=>exact ⟨_,(true),(by first|rfl|(simp;done)|(simp only [i64_w,i32_w] <;> rfl)|(simp [*];done)|(simp [emp_bne,emp_beq];done)),H',⟨by first|omega|exact Nat.le_refl _⟩,⟨by refine bB ?_;exact BK501.out⟩,⟨by refine bB ?_;exact BK502.out⟩,⟨by repeat (first|(with_reducible first|exact HB.out|apply bA|apply bN|apply bD|refine bS ?_ GE501.out|refine bS ?_ GE502.out)|exact HB.out)⟩⟩
  ·rw [if_neg c6] at H
   have c6b0:decide (60 < (a1.size:Int)) = false:=decide_eq_false c6
   have c6b1:decide (60 < a1.size) = false:=decide_eq_false (by omega)
   clear c6
   (first|rw [c6b0]|(simp only [i64_w,i32_w];rw [c6b0])|skip)
   replace H:=bI H
   obtain ⟨t503,A70,H⟩:=H
   replace H:(impl_AddrJoin.j0 k a1 (!t503) a0_0 l0_1 a0_2 a0_3) = some (r1,r2,r3,r4,r5):=H
   have A7:=Am A70
   clear A70
   have H':=Am H
   clear H
   have hnb8:=NB501_502.out
   have hnc8:=NB502_501.out
   obtain ⟨hcz9_0,hcz9_1,hcz9_2,hcz9_3,hfz9_0,hfz9_1,hfz9_2,hfz9_3⟩:=bX BK501.out







   go_wp2_with (first|(go_at_call 28;(with_reducible refine (impl_AddrOk.calls k a0_0 _ _ l0_1 a0_2 a0_3 t503 _ ?side1 ?side2 A7.out).mono ?_);(case side1=>repeat (first|exact (Kd.C_below HR0_1.out HB.out)|(with_reducible refine bC ?_)));(case side2=>exact HC0_1.out);rintro e w10 ⟨rfl,hb⟩;have n0_:=Am (blk_below (bB BK501.out) hb);have n1_:=Am (blk_below (bB BK502.out) hb);have n2_:=Am (bT (by repeat (first|(with_reducible first|exact HB.out|apply bA|apply bN|apply bD|refine bS ?_ GE501.out|refine bS ?_ GE502.out)|exact HB.out)) hb);clear BK501 BK502 HB;have BK501:=n0_;have BK502:=n1_;have HB:=n2_;clear n0_ n1_ n2_;(try clear hb)))
   go_meet
   case rel=>exact ⟨_,(!t503),(by first|rfl|(simp;done)|(simp only [i64_w,i32_w] <;> rfl)|(simp [*];done)|(simp [emp_bne,emp_beq];done)),H',⟨by first|omega|exact Nat.le_refl _⟩,⟨by refine bB ?_;exact BK501.out⟩,⟨by refine bB ?_;exact BK502.out⟩,⟨by repeat (first|(with_reducible first|exact HB.out|apply bA|apply bN|apply bD|refine bS ?_ GE501.out|refine bS ?_ GE502.out)|exact HB.out)⟩⟩
 case rest =>
  clear HC3
  try clear c1
  try clear p2
  try clear c6
  try clear c6b0
  try clear c6b1
  try clear c8
  try clear hcz9_0
  try clear hcz9_1
  try clear hcz9_2
  try clear hcz9_3
  try clear hfz9_0
  try clear hfz9_1
  try clear hfz9_2
  try clear hfz9_3
  obtain ⟨kq,x16_2,rfl,HA,HJ2,BK501,BK502,HB⟩:=hcut
  cases kq with
  | zero=>exact absurd HA.out (by simp [impl_AddrJoin.j0])
  | succ kj2 =>
   have H:=HA.out
   clear HA
   simp only [impl_AddrJoin.j0] at H
   by_cases c11:x16_2 = true
   ·subst c11
    have H1:(some ((⟨#[]⟩:ByteArray),([]:List ByteArray),false,(⟨#[]⟩:ByteArray),false)) = some (r1,r2,r3,r4,r5):=by rw [if_pos rfl] at H;exact H
    clear H
    have H:=H1
    clear H1
    simp only [Option.some.injEq,Prod.mk.injEq] at H
    obtain ⟨rfl,rfl,rfl,rfl,rfl⟩:=H
    have hnb12:=NB502_501.out
    have hnc12:=NB501_502.out
    obtain ⟨hcz13_0,hcz13_1,hcz13_2,hcz13_3,hfz13_0,hfz13_1,hfz13_2,hfz13_3⟩:=bX BK502.out







    go_wp2
    refine bodyPost_ret (results_ct rfl _ _ gb502 25 #[.string (⟨#[]⟩:ByteArray), .slice none 0 0, .bool false, .string (⟨#[]⟩:ByteArray)] (0,0) _ rfl (by refine bB ?_;apply bP;refine bB ?_;exact BK502.out) Tryd.underlying25 rfl (by kernel_rfl)) rfl ?_
    exact ⟨_,by first|rfl|(simp <;> rfl)|(simp [*] <;> rfl),by first|exact Kd.R_nil _ _ _ _ _|exact Kd.N_nil _ _ _ _ _|exact Kd.V_nil _ _ _ _ _|exact Kd.Q_nil _ _ _ _ _|exact Kd.S_nil _ _ _ _ _,by repeat (first|(with_reducible first|exact HB.out|apply bA|apply bN|apply bD|refine bS ?_ GE501.out|refine bS ?_ GE502.out)|exact HB.out)⟩
   ·replace c11:=Bool.eq_false_iff.mpr c11
    subst c11
    have H1:((strings_Cut.f a1 (⟨#[35]⟩:ByteArray)).bind fun bt504=>((strings_HasPrefix.f bt504.1 (⟨#[47,47]⟩:ByteArray)).bind fun t507=>(if t507 = true then ((impl_readWhole.f kj2 bt504.1).bind fun bt508=>(some (bt508.1,bt508.2.1,bt508.2.2.1,bt508.2.2.2.1,bt508.2.2.2.2))) else (if bt504.1.toList = ([]:List UInt8) then ((slices_Clone_string_string.f l0_1).bind fun t515=>(some (a0_0,t515,a0_2,a0_3,true))) else (if 0 < (bt504.1.size:Int) then (if (bt bt504.1 0) = 47 then ((impl_readWay.f kj2 a0_0 ([]:List ByteArray) bt504.1).bind fun bt518=>(some (bt518.1,bt518.2.1,bt518.2.2.1,bt518.2.2.2.1,bt518.2.2.2.2))) else (if (bt bt504.1 0) = 63 then ((impl_readWay.f kj2 a0_0 l0_1 bt504.1).bind fun bt525=>(some (bt525.1,bt525.2.1,bt525.2.2.1,bt525.2.2.2.1,bt525.2.2.2.2))) else (if 0 ≤ (mx (wrap64 ((l0_1.length:Int) - 1)) 0) then (if (mx (wrap64 ((l0_1.length:Int) - 1)) 0) ≤ (l0_1.length:Int) then ((impl_readWay.f kj2 a0_0 (l0_1.take ((mx (wrap64 ((l0_1.length:Int) - 1)) 0):Int).toNat) bt504.1).bind fun bt533=>(some (bt533.1,bt533.2.1,bt533.2.2.1,bt533.2.2.2.1,bt533.2.2.2.2))) else (none)) else (none)))) else (none)))))) = some (r1,r2,r3,r4,r5):=by rw [if_neg (show ¬ (false = true) by decide)] at H;exact H
    clear H
    have H:=H1
    clear H1
    replace H:=bI H
    obtain ⟨⟨t504,t505,t506⟩,A140,H⟩:=H
    replace H:((strings_HasPrefix.f t504 (⟨#[47,47]⟩:ByteArray)).bind fun t507=>(if t507 = true then ((impl_readWhole.f kj2 t504).bind fun bt508=>(some (bt508.1,bt508.2.1,bt508.2.2.1,bt508.2.2.2.1,bt508.2.2.2.2))) else (if t504.toList = ([]:List UInt8) then ((slices_Clone_string_string.f l0_1).bind fun t515=>(some (a0_0,t515,a0_2,a0_3,true))) else (if 0 < (t504.size:Int) then (if (bt t504 0) = 47 then ((impl_readWay.f kj2 a0_0 ([]:List ByteArray) t504).bind fun bt518=>(some (bt518.1,bt518.2.1,bt518.2.2.1,bt518.2.2.2.1,bt518.2.2.2.2))) else (if (bt t504 0) = 63 then ((impl_readWay.f kj2 a0_0 l0_1 t504).bind fun bt525=>(some (bt525.1,bt525.2.1,bt525.2.2.1,bt525.2.2.2.1,bt525.2.2.2.2))) else (if 0 ≤ (mx (wrap64 ((l0_1.length:Int) - 1)) 0) then (if (mx (wrap64 ((l0_1.length:Int) - 1)) 0) ≤ (l0_1.length:Int) then ((impl_readWay.f kj2 a0_0 (l0_1.take ((mx (wrap64 ((l0_1.length:Int) - 1)) 0):Int).toNat) t504).bind fun bt533=>(some (bt533.1,bt533.2.1,bt533.2.2.1,bt533.2.2.2.1,bt533.2.2.2.2))) else (none)) else (none)))) else (none))))) = some (r1,r2,r3,r4,r5):=H
    have A14:=Am A140
    clear A140
    replace H:=bI H
    obtain ⟨t507,A150,H⟩:=H
    replace H:(if t507 = true then ((impl_readWhole.f kj2 t504).bind fun bt508=>(some (bt508.1,bt508.2.1,bt508.2.2.1,bt508.2.2.2.1,bt508.2.2.2.2))) else (if t504.toList = ([]:List UInt8) then ((slices_Clone_string_string.f l0_1).bind fun t515=>(some (a0_0,t515,a0_2,a0_3,true))) else (if 0 < (t504.size:Int) then (if (bt t504 0) = 47 then ((impl_readWay.f kj2 a0_0 ([]:List ByteArray) t504).bind fun bt518=>(some (bt518.1,bt518.2.1,bt518.2.2.1,bt518.2.2.2.1,bt518.2.2.2.2))) else (if (bt t504 0) = 63 then ((impl_readWay.f kj2 a0_0 l0_1 t504).bind fun bt525=>(some (bt525.1,bt525.2.1,bt525.2.2.1,bt525.2.2.2.1,bt525.2.2.2.2))) else (if 0 ≤ (mx (wrap64 ((l0_1.length:Int) - 1)) 0) then (if (mx (wrap64 ((l0_1.length:Int) - 1)) 0) ≤ (l0_1.length:Int) then ((impl_readWay.f kj2 a0_0 (l0_1.take ((mx (wrap64 ((l0_1.length:Int) - 1)) 0):Int).toNat) t504).bind fun bt533=>(some (bt533.1,bt533.2.1,bt533.2.2.1,bt533.2.2.2.1,bt533.2.2.2.2))) else (none)) else (none)))) else (none)))) = some (r1,r2,r3,r4,r5):=H
    have A15:=Am A150
    clear A150
    by_cases c16:t507 = true
    ·subst c16
     have H1:((impl_readWhole.f kj2 t504).bind fun bt508=>(some (bt508.1,bt508.2.1,bt508.2.2.1,bt508.2.2.2.1,bt508.2.2.2.2))) = some (r1,r2,r3,r4,r5):=by rw [if_pos rfl] at H;exact H
     clear H
     have H:=H1
     clear H1
     replace H:=bI H
     obtain ⟨⟨t508,t509,t512,t513,t514⟩,A170,H⟩:=H
     replace H:(some (t508,t509,t512,t513,t514)) = some (r1,r2,r3,r4,r5):=H
     have A17:=Am A170
     clear A170
     simp only [Option.some.injEq,Prod.mk.injEq] at H
     obtain ⟨rfl,rfl,rfl,rfl,rfl⟩:=H
     go_wp2_with (first|((with_reducible refine gate_callee (f:=36) rfl ?_);refine goesL_ (some 20) rfl rfl Tryd.func36 (by kernel_rfl) rfl #[.string a1, .string (⟨#[35]⟩:ByteArray)] rfl (by (try simp only [List.map_toArray,List.map_cons,List.map_nil]);first|done|rfl|(simp only [List.length_drop,List.length_take];rfl)|(simp [Act.eval,Array.getD_eq_getD_getElem?];done)) ?_;(with_reducible refine (strings_Cut.calls a1 (⟨#[35]⟩:ByteArray) t504 t505 t506 _ A14.out).mono ?_);rintro e w' ⟨rfl,⟨nd,rfl⟩⟩;refine ⟨_,rfl,?_⟩;(try (rw [drewN_self wc];generalize hq_:World.drewN wc _ = wc;have n0_:Aside0 (wc.heap[gb501]? = some (.cells #[.string a0_0, .slice A0_1 l0_1.length c0_1, .bool a0_2, .string a0_3] 25 (0,0))):=⟨by rw [← hq_];exact (bB BK501.out)⟩;have n1_:Aside0 (wc.heap[gb502]? = some (.cells #[.string (⟨#[]⟩:ByteArray), .slice none 0 0, .bool false, .string (⟨#[]⟩:ByteArray)] 25 (0,0))):=⟨by rw [← hq_];exact (bB BK502.out)⟩;have n2_:Aside0 (Below w.heap.size w wc):=⟨by rw [← hq_];exact (by repeat (first|(with_reducible first|exact HB.out|apply bA|apply bN|apply bD|refine bS ?_ GE501.out|refine bS ?_ GE502.out)|exact HB.out))⟩;clear BK501 BK502 HB hq_;have BK501:=n0_;have BK502:=n1_;have HB:=n2_;clear n0_ n1_ n2_)))|((with_reducible refine gate_callee (f:=37) rfl ?_);refine goesL_ (some 26) rfl rfl Tryd.func37 (by kernel_rfl) rfl #[.string t504, .string (⟨#[47,47]⟩:ByteArray)] rfl (by (try simp only [List.map_toArray,List.map_cons,List.map_nil]);first|done|rfl|(simp only [List.length_drop,List.length_take];rfl)|(simp [Act.eval,Array.getD_eq_getD_getElem?];done)) ?_;(with_reducible refine (strings_HasPrefix.calls t504 (⟨#[47,47]⟩:ByteArray) true _ A15.out).mono ?_);rintro e w' ⟨rfl,⟨nd,rfl⟩⟩;refine ⟨_,rfl,?_⟩;(try (rw [drewN_self wc];generalize hq_:World.drewN wc _ = wc;have n0_:Aside0 (wc.heap[gb501]? = some (.cells #[.string a0_0, .slice A0_1 l0_1.length c0_1, .bool a0_2, .string a0_3] 25 (0,0))):=⟨by rw [← hq_];exact (bB BK501.out)⟩;have n1_:Aside0 (wc.heap[gb502]? = some (.cells #[.string (⟨#[]⟩:ByteArray), .slice none 0 0, .bool false, .string (⟨#[]⟩:ByteArray)] 25 (0,0))):=⟨by rw [← hq_];exact (bB BK502.out)⟩;have n2_:Aside0 (Below w.heap.size w wc):=⟨by rw [← hq_];exact (by repeat (first|(with_reducible first|exact HB.out|apply bA|apply bN|apply bD|refine bS ?_ GE501.out|refine bS ?_ GE502.out)|exact HB.out))⟩;clear BK501 BK502 HB hq_;have BK501:=n0_;have BK502:=n1_;have HB:=n2_;clear n0_ n1_ n2_)))|((with_reducible refine gate_callee (f:=38) rfl ?_);refine goesL_ (some 28) rfl rfl Tryd.func38 (by kernel_rfl) rfl #[.string t504] rfl (by (try simp only [List.map_toArray,List.map_cons,List.map_nil]);first|done|rfl|(simp only [List.length_drop,List.length_take];rfl)|(simp [Act.eval,Array.getD_eq_getD_getElem?];done)) ?_;(with_reducible refine (impl_readWhole.calls kj2 t504 t508 t509 t512 t513 t514 _ A17.out).mono ?_);rintro e w18 ⟨v510,rfl,ho0,hb⟩;refine ⟨_,rfl,?_⟩;have n0_:=Am (Kd.R_lower ho0 (bU (by repeat (first|(with_reducible first|exact HB.out|apply bA|apply bN|apply bD|refine bS ?_ GE501.out|refine bS ?_ GE502.out)|exact HB.out))));have n1_:=Am (blk_below (bB BK501.out) hb);have n2_:=Am (blk_below (bB BK502.out) hb);have n3_:=Am (bT (by repeat (first|(with_reducible first|exact HB.out|apply bA|apply bN|apply bD|refine bS ?_ GE501.out|refine bS ?_ GE502.out)|exact HB.out)) hb);clear BK501 BK502 HB;have HO511:=n0_;have BK501:=n1_;have BK502:=n2_;have HB:=n3_;clear n0_ n1_ n2_ n3_;(try clear hb);(try clear ho0);have hnb19:=NB502_501.out;have hnc19:=NB501_502.out;obtain ⟨hcz20_0,hcz20_1,hcz20_2,hcz20_3,hfz20_0,hfz20_1,hfz20_2,hfz20_3⟩:=bX BK502.out;obtain ⟨Ao21,co21,eo21⟩:=Kd.R_slice HO511.out;subst eo21))
     refine bodyPost_ret (results_ct rfl _ _ gb502 25 #[.string t508, .slice Ao21 t509.length co21, .bool t512, .string t513] (0,0) _ rfl (by refine bB ?_;apply bP;refine bB ?_;exact BK502.out) Tryd.underlying25 rfl (by kernel_rfl)) rfl ?_
     exact ⟨_,by first|rfl|(simp <;> rfl)|(simp [*] <;> rfl),by (with_reducible repeat (first|apply rA|apply rN|apply rD));exact Kd.R_mono (Kd.R_far (p:=⟨gb502,3,none⟩) (Kd.R_far (p:=⟨gb502,2,none⟩) (Kd.R_far (p:=⟨gb502,1,none⟩) (Kd.R_far (p:=⟨gb502,0,none⟩) (Kd.R_types HO511.out BK502.out (by decide)) (fun _ hk=>hk.2) (.string t508)) (fun _ hk=>hk.2) (.slice Ao21 t509.length co21)) (fun _ hk=>hk.2) (.bool t512)) (fun _ hk=>hk.2) (.string t513)) (fun _ hk=>trivial),by repeat (first|(with_reducible first|exact HB.out|apply bA|apply bN|apply bD|refine bS ?_ GE501.out|refine bS ?_ GE502.out)|exact HB.out)⟩
    ·replace c16:=Bool.eq_false_iff.mpr c16
     subst c16
     have H1:(if t504.toList = ([]:List UInt8) then ((slices_Clone_string_string.f l0_1).bind fun t515=>(some (a0_0,t515,a0_2,a0_3,true))) else (if 0 < (t504.size:Int) then (if (bt t504 0) = 47 then ((impl_readWay.f kj2 a0_0 ([]:List ByteArray) t504).bind fun bt518=>(some (bt518.1,bt518.2.1,bt518.2.2.1,bt518.2.2.2.1,bt518.2.2.2.2))) else (if (bt t504 0) = 63 then ((impl_readWay.f kj2 a0_0 l0_1 t504).bind fun bt525=>(some (bt525.1,bt525.2.1,bt525.2.2.1,bt525.2.2.2.1,bt525.2.2.2.2))) else (if 0 ≤ (mx (wrap64 ((l0_1.length:Int) - 1)) 0) then (if (mx (wrap64 ((l0_1.length:Int) - 1)) 0) ≤ (l0_1.length:Int) then ((impl_readWay.f kj2 a0_0 (l0_1.take ((mx (wrap64 ((l0_1.length:Int) - 1)) 0):Int).toNat) t504).bind fun bt533=>(some (bt533.1,bt533.2.1,bt533.2.2.1,bt533.2.2.2.1,bt533.2.2.2.2))) else (none)) else (none)))) else (none))) = some (r1,r2,r3,r4,r5):=by rw [if_neg (show ¬ (false = true) by decide)] at H;exact H
     clear H
     have H:=H1
     clear H1
     by_cases c22:t504.toList = ([]:List UInt8)
     ·rw [if_pos c22] at H
      (try (have c22b0:t504.toList.isEmpty = true:=by simpa using c22))
      have c22b1:(t504.toList == ([]:List UInt8)) = true:=beq_iff_eq.mpr c22
      have c22b2:(t504.toList != ([]:List UInt8)) = false:=bne_eq_false_iff_eq.mpr c22
      clear c22
      replace H:=bI H
      obtain ⟨t515,A230,H⟩:=H
      replace H:(some (a0_0,t515,a0_2,a0_3,true)) = some (r1,r2,r3,r4,r5):=H
      have A23:=Am A230
      clear A230
      simp only [Option.some.injEq,Prod.mk.injEq] at H
      obtain ⟨rfl,rfl,rfl,rfl,rfl⟩:=H
      go_wp2_with (first|((with_reducible refine gate_callee (f:=36) rfl ?_);refine goesL_ (some 20) rfl rfl Tryd.func36 (by kernel_rfl) rfl #[.string a1, .string (⟨#[35]⟩:ByteArray)] rfl (by (try simp only [List.map_toArray,List.map_cons,List.map_nil]);first|done|rfl|(simp only [List.length_drop,List.length_take];rfl)|(simp [Act.eval,Array.getD_eq_getD_getElem?];done)) ?_;(with_reducible refine (strings_Cut.calls a1 (⟨#[35]⟩:ByteArray) t504 t505 t506 _ A14.out).mono ?_);rintro e w' ⟨rfl,⟨nd,rfl⟩⟩;refine ⟨_,rfl,?_⟩;(try (rw [drewN_self wc];generalize hq_:World.drewN wc _ = wc;have n0_:Aside0 (wc.heap[gb501]? = some (.cells #[.string a0_0, .slice A0_1 l0_1.length c0_1, .bool a0_2, .string a0_3] 25 (0,0))):=⟨by rw [← hq_];exact (bB BK501.out)⟩;have n1_:Aside0 (wc.heap[gb502]? = some (.cells #[.string (⟨#[]⟩:ByteArray), .slice none 0 0, .bool false, .string (⟨#[]⟩:ByteArray)] 25 (0,0))):=⟨by rw [← hq_];exact (bB BK502.out)⟩;have n2_:Aside0 (Below w.heap.size w wc):=⟨by rw [← hq_];exact (by repeat (first|(with_reducible first|exact HB.out|apply bA|apply bN|apply bD|refine bS ?_ GE501.out|refine bS ?_ GE502.out)|exact HB.out))⟩;clear BK501 BK502 HB hq_;have BK501:=n0_;have BK502:=n1_;have HB:=n2_;clear n0_ n1_ n2_)))|((with_reducible refine gate_callee (f:=37) rfl ?_);refine goesL_ (some 26) rfl rfl Tryd.func37 (by kernel_rfl) rfl #[.string t504, .string (⟨#[47,47]⟩:ByteArray)] rfl (by (try simp only [List.map_toArray,List.map_cons,List.map_nil]);first|done|rfl|(simp only [List.length_drop,List.length_take];rfl)|(simp [Act.eval,Array.getD_eq_getD_getElem?];done)) ?_;(with_reducible refine (strings_HasPrefix.calls t504 (⟨#[47,47]⟩:ByteArray) false _ A15.out).mono ?_);rintro e w' ⟨rfl,⟨nd,rfl⟩⟩;refine ⟨_,rfl,?_⟩;(try (rw [drewN_self wc];generalize hq_:World.drewN wc _ = wc;have n0_:Aside0 (wc.heap[gb501]? = some (.cells #[.string a0_0, .slice A0_1 l0_1.length c0_1, .bool a0_2, .string a0_3] 25 (0,0))):=⟨by rw [← hq_];exact (bB BK501.out)⟩;have n1_:Aside0 (wc.heap[gb502]? = some (.cells #[.string (⟨#[]⟩:ByteArray), .slice none 0 0, .bool false, .string (⟨#[]⟩:ByteArray)] 25 (0,0))):=⟨by rw [← hq_];exact (bB BK502.out)⟩;have n2_:Aside0 (Below w.heap.size w wc):=⟨by rw [← hq_];exact (by repeat (first|(with_reducible first|exact HB.out|apply bA|apply bN|apply bD|refine bS ?_ GE501.out|refine bS ?_ GE502.out)|exact HB.out))⟩;clear BK501 BK502 HB hq_;have BK501:=n0_;have BK502:=n1_;have HB:=n2_;clear n0_ n1_ n2_));have hnb24:=NB501_502.out;have hnc24:=NB502_501.out;obtain ⟨hcz25_0,hcz25_1,hcz25_2,hcz25_3,hfz25_0,hfz25_1,hfz25_2,hfz25_3⟩:=bX BK501.out)|((with_reducible refine gate_callee (f:=39) rfl ?_);refine goesL_ (some 36) rfl rfl Tryd.func39 (by kernel_rfl) rfl #[.slice A0_1 l0_1.length c0_1] rfl (by (try simp only [List.map_toArray,List.map_cons,List.map_nil]);first|done|rfl|(simp only [List.length_drop,List.length_take];rfl)|(simp [Act.eval,Array.getD_eq_getD_getElem?];done)) ?_;(with_reducible refine (slices_Clone_string_string.calls _ _ l0_1 t515 _ ?side1 ?side2 A23.out).mono ?_);(case side1=>repeat (first|exact (Kd.C_below HR0_1.out HB.out)|(with_reducible refine bC ?_)));(case side2=>exact HC0_1.out);rintro e w26 ⟨v516,rfl,ho0,hb⟩;refine ⟨_,rfl,?_⟩;have n0_:=Am (Kd.R_lower ho0 (bU (by repeat (first|(with_reducible first|exact HB.out|apply bA|apply bN|apply bD|refine bS ?_ GE501.out|refine bS ?_ GE502.out)|exact HB.out))));have n1_:=Am (blk_below (bB BK501.out) hb);have n2_:=Am (blk_below (bB BK502.out) hb);have n3_:=Am (bT (by repeat (first|(with_reducible first|exact HB.out|apply bA|apply bN|apply bD|refine bS ?_ GE501.out|refine bS ?_ GE502.out)|exact HB.out)) hb);clear BK501 BK502 HB;have HO517:=n0_;have BK501:=n1_;have BK502:=n2_;have HB:=n3_;clear n0_ n1_ n2_ n3_;(try clear hb);(try clear ho0);obtain ⟨Ao27,co27,eo27⟩:=Kd.R_slice HO517.out;subst eo27;obtain ⟨hcz28_0,hcz28_1,hcz28_2,hcz28_3,hfz28_0,hfz28_1,hfz28_2,hfz28_3⟩:=bX BK501.out;obtain ⟨hcz29_0,hcz29_1,hcz29_2,hcz29_3,hfz29_0,hfz29_1,hfz29_2,hfz29_3⟩:=bX BK502.out))
      refine bodyPost_ret (results_ct rfl _ _ gb502 25 #[.string a0_0, .slice Ao27 t515.length co27, .bool a0_2, .string a0_3] (0,0) _ rfl (by refine bB ?_;apply bP;refine bB ?_;refine blk_far ?_ NB502_501.out _;refine bB ?_;exact BK502.out) Tryd.underlying25 rfl (by kernel_rfl)) rfl ?_
      exact ⟨_,by first|rfl|(simp <;> rfl)|(simp [*] <;> rfl),by (with_reducible repeat (first|apply rA|apply rN|apply rD));exact Kd.R_mono (Kd.R_far (p:=⟨gb502,3,none⟩) (Kd.R_far (p:=⟨gb502,2,none⟩) (Kd.R_far (p:=⟨gb502,1,none⟩) (Kd.R_far (p:=⟨gb502,0,none⟩) (Kd.R_far (p:=⟨gb501,1,none⟩) (Kd.R_types (Kd.R_types HO517.out BK501.out (by decide)) BK502.out (by decide)) (fun _ hk=>hk.1.2) (.slice Ao27 t515.length co27)) (fun _ hk=>hk.2) (.string a0_0)) (fun _ hk=>hk.2) (.slice Ao27 t515.length co27)) (fun _ hk=>hk.2) (.bool a0_2)) (fun _ hk=>hk.2) (.string a0_3)) (fun _ hk=>trivial),by repeat (first|(with_reducible first|exact HB.out|apply bA|apply bN|apply bD|refine bS ?_ GE501.out|refine bS ?_ GE502.out)|exact HB.out)⟩
     ·rw [if_neg c22] at H
      (try (have c22b0:t504.toList.isEmpty = false:=by simpa using c22))
      have c22b1:(t504.toList == ([]:List UInt8)) = false:=beq_eq_false_iff_ne.mpr c22
      have c22b2:(t504.toList != ([]:List UInt8)) = true:=bne_iff_ne.mpr c22
      by_cases c30:0 < (t504.size:Int)
      ·rw [if_pos c30] at H
       have c30b0:decide (0 < (t504.size:Int)) = true:=decide_eq_true c30
       have c30b1:decide (0 < t504.size) = true:=decide_eq_true (by omega)
       clear c30
       by_cases c32:(bt t504 0) = 47
       ·rw [if_pos c32] at H
        have c32b0:((bt t504 0) == 47) = true:=beq_iff_eq.mpr c32
        have c32b1:((bt t504 0) != 47) = false:=bne_eq_false_iff_eq.mpr c32
        clear c32
        replace H:=bI H
        obtain ⟨⟨t518,t519,t522,t523,t524⟩,A330,H⟩:=H
        replace H:(some (t518,t519,t522,t523,t524)) = some (r1,r2,r3,r4,r5):=H
        have A33:=Am A330
        clear A330
        simp only [Option.some.injEq,Prod.mk.injEq] at H
        obtain ⟨rfl,rfl,rfl,rfl,rfl⟩:=H
        go_wp2_with (first|((with_reducible refine gate_callee (f:=36) rfl ?_);refine goesL_ (some 20) rfl rfl Tryd.func36 (by kernel_rfl) rfl #[.string a1, .string (⟨#[35]⟩:ByteArray)] rfl (by (try simp only [List.map_toArray,List.map_cons,List.map_nil]);first|done|rfl|(simp only [List.length_drop,List.length_take];rfl)|(simp [Act.eval,Array.getD_eq_getD_getElem?];done)) ?_;(with_reducible refine (strings_Cut.calls a1 (⟨#[35]⟩:ByteArray) t504 t505 t506 _ A14.out).mono ?_);rintro e w' ⟨rfl,⟨nd,rfl⟩⟩;refine ⟨_,rfl,?_⟩;(try (rw [drewN_self wc];generalize hq_:World.drewN wc _ = wc;have n0_:Aside0 (wc.heap[gb501]? = some (.cells #[.string a0_0, .slice A0_1 l0_1.length c0_1, .bool a0_2, .string a0_3] 25 (0,0))):=⟨by rw [← hq_];exact (bB BK501.out)⟩;have n1_:Aside0 (wc.heap[gb502]? = some (.cells #[.string (⟨#[]⟩:ByteArray), .slice none 0 0, .bool false, .string (⟨#[]⟩:ByteArray)] 25 (0,0))):=⟨by rw [← hq_];exact (bB BK502.out)⟩;have n2_:Aside0 (Below w.heap.size w wc):=⟨by rw [← hq_];exact (by repeat (first|(with_reducible first|exact HB.out|apply bA|apply bN|apply bD|refine bS ?_ GE501.out|refine bS ?_ GE502.out)|exact HB.out))⟩;clear BK501 BK502 HB hq_;have BK501:=n0_;have BK502:=n1_;have HB:=n2_;clear n0_ n1_ n2_)))|((with_reducible refine gate_callee (f:=37) rfl ?_);refine goesL_ (some 26) rfl rfl Tryd.func37 (by kernel_rfl) rfl #[.string t504, .string (⟨#[47,47]⟩:ByteArray)] rfl (by (try simp only [List.map_toArray,List.map_cons,List.map_nil]);first|done|rfl|(simp only [List.length_drop,List.length_take];rfl)|(simp [Act.eval,Array.getD_eq_getD_getElem?];done)) ?_;(with_reducible refine (strings_HasPrefix.calls t504 (⟨#[47,47]⟩:ByteArray) false _ A15.out).mono ?_);rintro e w' ⟨rfl,⟨nd,rfl⟩⟩;refine ⟨_,rfl,?_⟩;(try (rw [drewN_self wc];generalize hq_:World.drewN wc _ = wc;have n0_:Aside0 (wc.heap[gb501]? = some (.cells #[.string a0_0, .slice A0_1 l0_1.length c0_1, .bool a0_2, .string a0_3] 25 (0,0))):=⟨by rw [← hq_];exact (bB BK501.out)⟩;have n1_:Aside0 (wc.heap[gb502]? = some (.cells #[.string (⟨#[]⟩:ByteArray), .slice none 0 0, .bool false, .string (⟨#[]⟩:ByteArray)] 25 (0,0))):=⟨by rw [← hq_];exact (bB BK502.out)⟩;have n2_:Aside0 (Below w.heap.size w wc):=⟨by rw [← hq_];exact (by repeat (first|(with_reducible first|exact HB.out|apply bA|apply bN|apply bD|refine bS ?_ GE501.out|refine bS ?_ GE502.out)|exact HB.out))⟩;clear BK501 BK502 HB hq_;have BK501:=n0_;have BK502:=n1_;have HB:=n2_;clear n0_ n1_ n2_));have p31:0 ≤ (0:Int):=(by omega);have q31:0 < t504.size:=(by have:(0:Int) < (t504.size:Int):=oD (by assumption);omega);have hx31:∀ h:0 < t504.size,((t504[0]'h).toNat:Int) = bt t504 0:=bt_at t504 0;clear p31;have qi31:(0 < (t504.size:Int)) = True:=eq_true (oD (by assumption));replace q31:=eq_true q31;have hnb34:=NB501_502.out;have hnc34:=NB502_501.out;obtain ⟨hcz35_0,hcz35_1,hcz35_2,hcz35_3,hfz35_0,hfz35_1,hfz35_2,hfz35_3⟩:=bX BK501.out)|((with_reducible refine gate_callee (f:=40) rfl ?_);refine goesL_ (some 46) rfl rfl Tryd.func40 (by kernel_rfl) rfl #[.string a0_0, .slice none 0 0, .string t504] rfl (by (try simp only [List.map_toArray,List.map_cons,List.map_nil]);first|done|rfl|(simp only [List.length_drop,List.length_take];rfl)|(simp [Act.eval,Array.getD_eq_getD_getElem?];done)) ?_;(refine (impl_readWay.calls kj2 a0_0 _ _ ([]:List ByteArray) t504 t518 t519 t522 t523 t524 _ ?side1 ?side2 A33.out).mono ?_);(case side1=>exact Kd.C_nil _ _);(case side2=>exact Nat.le_refl _);rintro e w36 ⟨v520,rfl,ho0,hb⟩;refine ⟨_,rfl,?_⟩;have n0_:=Am (Kd.R_lower ho0 (bU (by repeat (first|(with_reducible first|exact HB.out|apply bA|apply bN|apply bD|refine bS ?_ GE501.out|refine bS ?_ GE502.out)|exact HB.out))));have n1_:=Am (blk_below (bB BK501.out) hb);have n2_:=Am (blk_below (bB BK502.out) hb);have n3_:=Am (bT (by repeat (first|(with_reducible first|exact HB.out|apply bA|apply bN|apply bD|refine bS ?_ GE501.out|refine bS ?_ GE502.out)|exact HB.out)) hb);clear BK501 BK502 HB;have HO521:=n0_;have BK501:=n1_;have BK502:=n2_;have HB:=n3_;clear n0_ n1_ n2_ n3_;(try clear hb);(try clear ho0);obtain ⟨hcz37_0,hcz37_1,hcz37_2,hcz37_3,hfz37_0,hfz37_1,hfz37_2,hfz37_3⟩:=bX BK502.out;obtain ⟨Ao38,co38,eo38⟩:=Kd.R_slice HO521.out;subst eo38))
        refine bodyPost_ret (results_ct rfl _ _ gb502 25 #[.string t518, .slice Ao38 t519.length co38, .bool t522, .string t523] (0,0) _ rfl (by refine bB ?_;apply bP;refine bB ?_;exact BK502.out) Tryd.underlying25 rfl (by kernel_rfl)) rfl ?_
        exact ⟨_,by first|rfl|(simp <;> rfl)|(simp [*] <;> rfl),by (with_reducible repeat (first|apply rA|apply rN|apply rD));exact Kd.R_mono (Kd.R_far (p:=⟨gb502,3,none⟩) (Kd.R_far (p:=⟨gb502,2,none⟩) (Kd.R_far (p:=⟨gb502,1,none⟩) (Kd.R_far (p:=⟨gb502,0,none⟩) (Kd.R_types HO521.out BK502.out (by decide)) (fun _ hk=>hk.2) (.string t518)) (fun _ hk=>hk.2) (.slice Ao38 t519.length co38)) (fun _ hk=>hk.2) (.bool t522)) (fun _ hk=>hk.2) (.string t523)) (fun _ hk=>trivial),by repeat (first|(with_reducible first|exact HB.out|apply bA|apply bN|apply bD|refine bS ?_ GE501.out|refine bS ?_ GE502.out)|exact HB.out)⟩
       ·rw [if_neg c32] at H
        have c32b0:((bt t504 0) == 47) = false:=beq_eq_false_iff_ne.mpr c32
        have c32b1:((bt t504 0) != 47) = true:=bne_iff_ne.mpr c32
        by_cases c40:(bt t504 0) = 63
        ·rw [if_pos c40] at H
         have c40b0:((bt t504 0) == 63) = true:=beq_iff_eq.mpr c40
         have c40b1:((bt t504 0) != 63) = false:=bne_eq_false_iff_eq.mpr c40
         clear c40
         replace H:=bI H
         obtain ⟨⟨t525,t526,t529,t530,t531⟩,A410,H⟩:=H
         replace H:(some (t525,t526,t529,t530,t531)) = some (r1,r2,r3,r4,r5):=H
         have A41:=Am A410
         clear A410
         simp only [Option.some.injEq,Prod.mk.injEq] at H
         obtain ⟨rfl,rfl,rfl,rfl,rfl⟩:=H
         go_wp2_with (first|((with_reducible refine gate_callee (f:=36) rfl ?_);refine goesL_ (some 20) rfl rfl Tryd.func36 (by kernel_rfl) rfl #[.string a1, .string (⟨#[35]⟩:ByteArray)] rfl (by (try simp only [List.map_toArray,List.map_cons,List.map_nil]);first|done|rfl|(simp only [List.length_drop,List.length_take];rfl)|(simp [Act.eval,Array.getD_eq_getD_getElem?];done)) ?_;(with_reducible refine (strings_Cut.calls a1 (⟨#[35]⟩:ByteArray) t504 t505 t506 _ A14.out).mono ?_);rintro e w' ⟨rfl,⟨nd,rfl⟩⟩;refine ⟨_,rfl,?_⟩;(try (rw [drewN_self wc];generalize hq_:World.drewN wc _ = wc;have n0_:Aside0 (wc.heap[gb501]? = some (.cells #[.string a0_0, .slice A0_1 l0_1.length c0_1, .bool a0_2, .string a0_3] 25 (0,0))):=⟨by rw [← hq_];exact (bB BK501.out)⟩;have n1_:Aside0 (wc.heap[gb502]? = some (.cells #[.string (⟨#[]⟩:ByteArray), .slice none 0 0, .bool false, .string (⟨#[]⟩:ByteArray)] 25 (0,0))):=⟨by rw [← hq_];exact (bB BK502.out)⟩;have n2_:Aside0 (Below w.heap.size w wc):=⟨by rw [← hq_];exact (by repeat (first|(with_reducible first|exact HB.out|apply bA|apply bN|apply bD|refine bS ?_ GE501.out|refine bS ?_ GE502.out)|exact HB.out))⟩;clear BK501 BK502 HB hq_;have BK501:=n0_;have BK502:=n1_;have HB:=n2_;clear n0_ n1_ n2_)))|((with_reducible refine gate_callee (f:=37) rfl ?_);refine goesL_ (some 26) rfl rfl Tryd.func37 (by kernel_rfl) rfl #[.string t504, .string (⟨#[47,47]⟩:ByteArray)] rfl (by (try simp only [List.map_toArray,List.map_cons,List.map_nil]);first|done|rfl|(simp only [List.length_drop,List.length_take];rfl)|(simp [Act.eval,Array.getD_eq_getD_getElem?];done)) ?_;(with_reducible refine (strings_HasPrefix.calls t504 (⟨#[47,47]⟩:ByteArray) false _ A15.out).mono ?_);rintro e w' ⟨rfl,⟨nd,rfl⟩⟩;refine ⟨_,rfl,?_⟩;(try (rw [drewN_self wc];generalize hq_:World.drewN wc _ = wc;have n0_:Aside0 (wc.heap[gb501]? = some (.cells #[.string a0_0, .slice A0_1 l0_1.length c0_1, .bool a0_2, .string a0_3] 25 (0,0))):=⟨by rw [← hq_];exact (bB BK501.out)⟩;have n1_:Aside0 (wc.heap[gb502]? = some (.cells #[.string (⟨#[]⟩:ByteArray), .slice none 0 0, .bool false, .string (⟨#[]⟩:ByteArray)] 25 (0,0))):=⟨by rw [← hq_];exact (bB BK502.out)⟩;have n2_:Aside0 (Below w.heap.size w wc):=⟨by rw [← hq_];exact (by repeat (first|(with_reducible first|exact HB.out|apply bA|apply bN|apply bD|refine bS ?_ GE501.out|refine bS ?_ GE502.out)|exact HB.out))⟩;clear BK501 BK502 HB hq_;have BK501:=n0_;have BK502:=n1_;have HB:=n2_;clear n0_ n1_ n2_));have p31:0 ≤ (0:Int):=(by omega);have q31:0 < t504.size:=(by have:(0:Int) < (t504.size:Int):=oD (by assumption);omega);have hx31:∀ h:0 < t504.size,((t504[0]'h).toNat:Int) = bt t504 0:=bt_at t504 0;clear p31;have qi31:(0 < (t504.size:Int)) = True:=eq_true (oD (by assumption));replace q31:=eq_true q31;have p39:0 ≤ (0:Int):=(by omega);have q39:0 < t504.size:=(by have:(0:Int) < (t504.size:Int):=oD (by assumption);omega);have hx39:∀ h:0 < t504.size,((t504[0]'h).toNat:Int) = bt t504 0:=bt_at t504 0;clear p39;have qi39:(0 < (t504.size:Int)) = True:=eq_true (oD (by assumption));replace q39:=eq_true q39;have hnb42:=NB501_502.out;have hnc42:=NB502_501.out;obtain ⟨hcz43_0,hcz43_1,hcz43_2,hcz43_3,hfz43_0,hfz43_1,hfz43_2,hfz43_3⟩:=bX BK501.out)|((with_reducible refine gate_callee (f:=40) rfl ?_);refine goesL_ (some 58) rfl rfl Tryd.func40 (by kernel_rfl) rfl #[.string a0_0, .slice A0_1 l0_1.length c0_1, .string t504] rfl (by (try simp only [List.map_toArray,List.map_cons,List.map_nil]);first|done|rfl|(simp only [List.length_drop,List.length_take];rfl)|(simp [Act.eval,Array.getD_eq_getD_getElem?];done)) ?_;(with_reducible refine (impl_readWay.calls kj2 a0_0 _ _ l0_1 t504 t525 t526 t529 t530 t531 _ ?side1 ?side2 A41.out).mono ?_);(case side1=>repeat (first|exact (Kd.C_below HR0_1.out HB.out)|(with_reducible refine bC ?_)));(case side2=>exact HC0_1.out);rintro e w44 ⟨v527,rfl,ho0,hb⟩;refine ⟨_,rfl,?_⟩;have n0_:=Am (Kd.R_lower ho0 (bU (by repeat (first|(with_reducible first|exact HB.out|apply bA|apply bN|apply bD|refine bS ?_ GE501.out|refine bS ?_ GE502.out)|exact HB.out))));have n1_:=Am (blk_below (bB BK501.out) hb);have n2_:=Am (blk_below (bB BK502.out) hb);have n3_:=Am (bT (by repeat (first|(with_reducible first|exact HB.out|apply bA|apply bN|apply bD|refine bS ?_ GE501.out|refine bS ?_ GE502.out)|exact HB.out)) hb);clear BK501 BK502 HB;have HO528:=n0_;have BK501:=n1_;have BK502:=n2_;have HB:=n3_;clear n0_ n1_ n2_ n3_;(try clear hb);(try clear ho0);obtain ⟨hcz45_0,hcz45_1,hcz45_2,hcz45_3,hfz45_0,hfz45_1,hfz45_2,hfz45_3⟩:=bX BK502.out;obtain ⟨Ao46,co46,eo46⟩:=Kd.R_slice HO528.out;subst eo46))
         refine bodyPost_ret (results_ct rfl _ _ gb502 25 #[.string t525, .slice Ao46 t526.length co46, .bool t529, .string t530] (0,0) _ rfl (by refine bB ?_;apply bP;refine bB ?_;exact BK502.out) Tryd.underlying25 rfl (by kernel_rfl)) rfl ?_
         exact ⟨_,by first|rfl|(simp <;> rfl)|(simp [*] <;> rfl),by (with_reducible repeat (first|apply rA|apply rN|apply rD));exact Kd.R_mono (Kd.R_far (p:=⟨gb502,3,none⟩) (Kd.R_far (p:=⟨gb502,2,none⟩) (Kd.R_far (p:=⟨gb502,1,none⟩) (Kd.R_far (p:=⟨gb502,0,none⟩) (Kd.R_types HO528.out BK502.out (by decide)) (fun _ hk=>hk.2) (.string t525)) (fun _ hk=>hk.2) (.slice Ao46 t526.length co46)) (fun _ hk=>hk.2) (.bool t529)) (fun _ hk=>hk.2) (.string t530)) (fun _ hk=>trivial),by repeat (first|(with_reducible first|exact HB.out|apply bA|apply bN|apply bD|refine bS ?_ GE501.out|refine bS ?_ GE502.out)|exact HB.out)⟩
        ·rw [if_neg c40] at H
         have c40b0:((bt t504 0) == 63) = false:=beq_eq_false_iff_ne.mpr c40
         have c40b1:((bt t504 0) != 63) = true:=bne_iff_ne.mpr c40
         obtain ⟨ji47,hji47⟩:∃ j_:Int,(mx (wrap64 ((l0_1.length:Int) - 1)) 0) = j_:=⟨_,rfl⟩
         replace H:(if 0 ≤ (ji47) then (if (ji47) ≤ (l0_1.length:Int) then ((impl_readWay.f kj2 a0_0 (l0_1.take ((ji47):Int).toNat) t504).bind fun bt533=>(some (bt533.1,bt533.2.1,bt533.2.2.1,bt533.2.2.2.1,bt533.2.2.2.2))) else (none)) else (none)) = some (r1,r2,r3,r4,r5):=by first|(rw [hji47] at H;exact H)|(simp only [hji47] at H ⊢;exact H)
         (try rw [hji47] at A14)
         (try rw [hji47] at A15)
         (try (have hji47l:0 ≤ ji47:=by (rw [← hji47];unfold mx;(repeat' split) <;> omega)))
         (try (have hji47m:0 ≤ ji47:=by omega))
         have hji47_:(if (wrap64 ((l0_1.length:Int) - 1)) < 0 then 0 else (wrap64 ((l0_1.length:Int) - 1))) = ji47:=hji47
         by_cases c48:0 ≤ (ji47)
         ·rw [if_pos c48] at H
          have c48b0:=eq_true c48
          have c48b1:=decide_eq_true c48
          clear c48
          by_cases c49:(ji47) ≤ (l0_1.length:Int)
          ·rw [if_pos c49] at H
           have c49b0:=eq_true c49
           have c49b1:=decide_eq_true c49
           clear c49
           replace H:=bI H
           obtain ⟨⟨t533,t534,t537,t538,t539⟩,A500,H⟩:=H
           replace H:(some (t533,t534,t537,t538,t539)) = some (r1,r2,r3,r4,r5):=H
           have A50:=Am A500
           clear A500
           simp only [Option.some.injEq,Prod.mk.injEq] at H
           obtain ⟨rfl,rfl,rfl,rfl,rfl⟩:=H
           try go_wp2_with (first|((with_reducible refine gate_callee (f:=36) rfl ?_);refine goesL_ (some 20) rfl rfl Tryd.func36 (by kernel_rfl) rfl #[.string a1, .string (⟨#[35]⟩:ByteArray)] rfl (by (try simp only [List.map_toArray,List.map_cons,List.map_nil]);first|done|rfl|(simp only [List.length_drop,List.length_take];rfl)|(simp [Act.eval,Array.getD_eq_getD_getElem?];done)) ?_;(with_reducible refine (strings_Cut.calls a1 (⟨#[35]⟩:ByteArray) t504 t505 t506 _ A14.out).mono ?_);rintro e w' ⟨rfl,⟨nd,rfl⟩⟩;refine ⟨_,rfl,?_⟩;(try (rw [drewN_self wc];generalize hq_:World.drewN wc _ = wc;have n0_:Aside0 (wc.heap[gb501]? = some (.cells #[.string a0_0, .slice A0_1 l0_1.length c0_1, .bool a0_2, .string a0_3] 25 (0,0))):=⟨by rw [← hq_];exact (bB BK501.out)⟩;have n1_:Aside0 (wc.heap[gb502]? = some (.cells #[.string (⟨#[]⟩:ByteArray), .slice none 0 0, .bool false, .string (⟨#[]⟩:ByteArray)] 25 (0,0))):=⟨by rw [← hq_];exact (bB BK502.out)⟩;have n2_:Aside0 (Below w.heap.size w wc):=⟨by rw [← hq_];exact (by repeat (first|(with_reducible first|exact HB.out|apply bA|apply bN|apply bD|refine bS ?_ GE501.out|refine bS ?_ GE502.out)|exact HB.out))⟩;clear BK501 BK502 HB hq_;have BK501:=n0_;have BK502:=n1_;have HB:=n2_;clear n0_ n1_ n2_)))|((with_reducible refine gate_callee (f:=37) rfl ?_);refine goesL_ (some 26) rfl rfl Tryd.func37 (by kernel_rfl) rfl #[.string t504, .string (⟨#[47,47]⟩:ByteArray)] rfl (by (try simp only [List.map_toArray,List.map_cons,List.map_nil]);first|done|rfl|(simp only [List.length_drop,List.length_take];rfl)|(simp [Act.eval,Array.getD_eq_getD_getElem?];done)) ?_;(with_reducible refine (strings_HasPrefix.calls t504 (⟨#[47,47]⟩:ByteArray) false _ A15.out).mono ?_);rintro e w' ⟨rfl,⟨nd,rfl⟩⟩;refine ⟨_,rfl,?_⟩;(try (rw [drewN_self wc];generalize hq_:World.drewN wc _ = wc;have n0_:Aside0 (wc.heap[gb501]? = some (.cells #[.string a0_0, .slice A0_1 l0_1.length c0_1, .bool a0_2, .string a0_3] 25 (0,0))):=⟨by rw [← hq_];exact (bB BK501.out)⟩;have n1_:Aside0 (wc.heap[gb502]? = some (.cells #[.string (⟨#[]⟩:ByteArray), .slice none 0 0, .bool false, .string (⟨#[]⟩:ByteArray)] 25 (0,0))):=⟨by rw [← hq_];exact (bB BK502.out)⟩;have n2_:Aside0 (Below w.heap.size w wc):=⟨by rw [← hq_];exact (by repeat (first|(with_reducible first|exact HB.out|apply bA|apply bN|apply bD|refine bS ?_ GE501.out|refine bS ?_ GE502.out)|exact HB.out))⟩;clear BK501 BK502 HB hq_;have BK501:=n0_;have BK502:=n1_;have HB:=n2_;clear n0_ n1_ n2_));have p31:0 ≤ (0:Int):=(by omega);have q31:0 < t504.size:=(by have:(0:Int) < (t504.size:Int):=oD (by assumption);omega);have hx31:∀ h:0 < t504.size,((t504[0]'h).toNat:Int) = bt t504 0:=bt_at t504 0;clear p31;have qi31:(0 < (t504.size:Int)) = True:=eq_true (oD (by assumption));replace q31:=eq_true q31;have p39:0 ≤ (0:Int):=(by omega);have q39:0 < t504.size:=(by have:(0:Int) < (t504.size:Int):=oD (by assumption);omega);have hx39:∀ h:0 < t504.size,((t504[0]'h).toNat:Int) = bt t504 0:=bt_at t504 0;clear p39;have qi39:(0 < (t504.size:Int)) = True:=eq_true (oD (by assumption));replace q39:=eq_true q39))
           have n0_:=Am (blk_drew BK501.out)
           have n1_:=Am (blk_drew BK502.out)
           have n2_:=Am (below_drew1 HB.out)
           clear BK501
           clear BK502
           clear HB
           have BK501:=n0_
           have BK502:=n1_
           have HB:=n2_
           clear n0_ n1_ n2_
           obtain ⟨i052,hi052,_,hsz52,_⟩:=info_parts info9
           obtain ⟨hcut52,hA52,hC52⟩:=print_take_of (P:=Tryd.prog) Value.string (⟨#[]⟩:ByteArray) 23 9 .i64 Tryd.underlying23 hi052 hsz52 A0_1 c0_1 l0_1 (ji47) (oD (by assumption)) (oD (by assumption)) HC0_1.out
           have HR532:=Am (Kd.C_of_reads (h1:=fun _=>rfl) (hA52 _ (Kd.reads_of_C HR0_1.out)))
           have HC532:=Am hC52
           clear hA52 hC52 hi052 hsz52
           refine start_ (n:=16) (S:=fun w'=>w'.cell? ⟨gb501,0,none⟩ = some (.string a0_0) ∧ w'.cell? ⟨gb501,1,none⟩ = some (.slice A0_1 l0_1.length c0_1) ∧ w'.cell? ⟨gb501,2,none⟩ = some (.bool a0_2) ∧ w'.cell? ⟨gb501,3,none⟩ = some (.string a0_3)) (ds:=[]) #[false,false,false,false,false,false,false,false,false,false,false,false,false,false,false,false] (by kernel_rfl) rfl rfl ⟨bM BK501.out 0 rfl,bM BK501.out 1 rfl,bM BK501.out 2 rfl,bM BK501.out 3 rfl⟩ (fun hHeld=>?_);refine with_tabW impl_AddrJoin.tab13 impl_AddrJoin.bits13 (fun HT_ HW_=>?_)
           generalize wc.drew = w51 at BK501 BK502 HB HR532 hHeld ⊢
           refine pure_ (i:=0) (N:=some 61) (v:=?_) (a':=?_) #[true,false,false,false,false,false,false,false,false,false,false,false,false,false,false,false] rfl rfl (any_of HT_.out (by kernel_rfl)) (fun _ _ _ h=>h) (Or.inl ⟨by rfl,?_⟩) ?_ ?_
           rotate_left
           ·intro w'
            go_simp
            with_reducible rfl
           rotate_left
           ·simp only [Act.put,lT,lZ,lS,i64_w,i32_w]
            rfl
           refine pure_ (i:=2) (N:=some 63) (v:=?_) (a':=?_) #[true,false,true,false,false,false,false,false,false,false,false,false,false,false,false,false] rfl rfl (any_of HT_.out (by kernel_rfl)) (fun _ _ _ h=>h) (Or.inl ⟨by rfl,?_⟩) ?_ ?_
           rotate_left
           ·intro w'
            go_simp
            with_reducible rfl
           rotate_left
           ·simp only [Act.put,lT,lZ,lS,i64_w,i32_w]
            rfl
           refine pure_ (i:=4) (N:=some 65) (v:=?_) (a':=?_) #[true,false,true,false,true,false,false,false,false,false,false,false,false,false,false,false] rfl rfl (any_of HT_.out (by kernel_rfl)) (fun _ _ _ h=>h) (Or.inl ⟨by rfl,?_⟩) ?_ ?_
           rotate_left
           ·intro w'
            go_simp
            with_reducible rfl
           rotate_left
           ·simp only [Act.put,lT,lZ,lS,i64_w,i32_w]
            rfl
           refine pure_ (i:=10) (N:=some 71) (v:=?_) (a':=?_) #[true,false,true,false,true,false,false,false,false,false,true,false,false,false,false,false] rfl rfl (any_of HT_.out (by kernel_rfl)) (fun _ _ _ h=>h) (Or.inl ⟨by rfl,?_⟩) ?_ ?_
           rotate_left
           ·intro w'
            go_simp
            with_reducible rfl
           rotate_left
           ·simp only [Act.put,lT,lZ,lS,i64_w,i32_w]
            rfl
           refine take_ (i:=1) (N:=some 62) (v:=?_) (a':=?_) #[true,true,true,false,true,false,false,false,false,false,true,false,false,false,false,false] rfl rfl (take_ofW HT_.out HW_.out (by kernel_rfl)) (fun _ _ _ h=>h) (Or.inl ⟨by rfl,?_⟩) hHeld ?_ ?_
           rotate_left
           ·rintro w' ⟨s0,s1,s2,s3⟩
            go_simp
            with_reducible rfl
           rotate_left
           ·simp only [Act.put,lT,lZ,lS,i64_w,i32_w]
            rfl
           refine take_ (i:=3) (N:=some 64) (v:=?_) (a':=?_) #[true,true,true,true,true,false,false,false,false,false,true,false,false,false,false,false] rfl rfl (take_ofW HT_.out HW_.out (by kernel_rfl)) (fun _ _ _ h=>h) (Or.inl ⟨by rfl,?_⟩) hHeld ?_ ?_
           rotate_left
           ·rintro w' ⟨s0,s1,s2,s3⟩
            go_simp
            with_reducible rfl
           rotate_left
           ·simp only [Act.put,lT,lZ,lS,i64_w,i32_w]
            rfl
           refine take_ (i:=5) (N:=some 66) (v:=?_) (a':=?_) #[true,true,true,true,true,true,false,false,false,false,true,false,false,false,false,false] rfl rfl (take_ofW HT_.out HW_.out (by kernel_rfl)) (fun _ _ _ h=>h) (Or.inl ⟨by rfl,?_⟩) hHeld ?_ ?_
           rotate_left
           ·rintro w' ⟨s0,s1,s2,s3⟩
            go_simp
            with_reducible rfl
           rotate_left
           ·simp only [Act.put,lT,lZ,lS,i64_w,i32_w]
            rfl
           refine pure_ (i:=6) (N:=some 67) (v:=?_) (a':=?_) #[true,true,true,true,true,true,true,false,false,false,true,false,false,false,false,false] rfl rfl (any_of HT_.out (by kernel_rfl)) (fun _ _ _ h=>h) (Or.inl ⟨by rfl,?_⟩) ?_ ?_
           rotate_left
           ·intro w'
            go_simp
            with_reducible rfl
           rotate_left
           ·simp only [Act.put,lT,lZ,lS,i64_w,i32_w]
            rfl
           refine pure_ (i:=7) (N:=some 68) (v:=?_) (a':=?_) #[true,true,true,true,true,true,true,true,false,false,true,false,false,false,false,false] rfl rfl (any_of HT_.out (by kernel_rfl)) (fun _ _ _ h=>h) (Or.inl ⟨by rfl,?_⟩) ?_ ?_
           rotate_left
           ·intro w'
            go_simp
            with_reducible rfl
           rotate_left
           ·simp only [Act.put,lT,lZ,lS,i64_w,i32_w]
            rfl
           refine pure_ (i:=8) (N:=some 69) (v:=?_) (a':=?_) #[true,true,true,true,true,true,true,true,true,false,true,false,false,false,false,false] rfl rfl (any_of HT_.out (by kernel_rfl)) (fun _ _ _ h=>h) (Or.inl ⟨by rfl,?_⟩) ?_ ?_
           rotate_left
           ·intro w'
            go_simp
            with_reducible rfl
           rotate_left
           ·simp only [Act.put,lT,lZ,lS,i64_w,i32_w]
            rfl
           refine pure_ (i:=9) (N:=some 70) (v:=?_) (a':=?_) #[true,true,true,true,true,true,true,true,true,true,true,false,false,false,false,false] rfl rfl (any_of HT_.out (by kernel_rfl)) (fun _ _ _ h=>h) (Or.inl ⟨by rfl,?_⟩) ?_ ?_
           rotate_left
           ·intro w'
            go_simp
            with_reducible rfl
           rotate_left
           ·simp only [Act.put,lT,lZ,lS,i64_w,i32_w]
            rfl
           refine one_ (i:=11) (N:=some 72) #[true,true,true,true,true,true,true,true,true,true,true,true,false,false,false,false] rfl rfl (one_of HT_.out (by kernel_rfl)) (by decide) (fun K hK=>?_)
           refine goes_ Tryd.func40 (by kernel_rfl) rfl #[.string a0_0, .slice A0_1 (l0_1.take ((ji47):Int).toNat).length c0_1, .string t504] (by rfl) rfl rfl (by (try simp only [List.map_toArray,List.map_cons,List.map_nil]);first|done|(rw [show (l0_1.take ((ji47):Int).toNat).length = (ji47).toNat from (by rw [List.length_take];have h_:((ji47):Int) ≤ (l0_1.length:Int):=oD (by assumption);omega)] <;> rfl)|(simp only [hji47];rfl)|rfl|(simp only [List.length_drop,List.length_take];rfl)|(simp [Act.eval,Array.getD_eq_getD_getElem?];done)) ?_
           with_reducible refine (impl_readWay.calls kj2 a0_0 _ _ (l0_1.take ((ji47):Int).toNat) t504 t533 t534 t537 t538 t539 _ ?side1 ?side2 A50.out).mono ?_
           (case side1=>repeat (first|exact (Kd.C_below HR532.out HB.out)|(with_reducible refine bC ?_)))
           (case side2=>exact HC532.out)
           rintro e w53 ⟨v535,rfl,ho0,hb⟩
           refine ⟨_,rfl,?_⟩
           have n0_:=Am (Kd.R_lower ho0 (bU (by repeat (first|(with_reducible first|exact HB.out|apply bA|apply bN|apply bD|refine bS ?_ GE501.out|refine bS ?_ GE502.out)|exact HB.out))))
           have n1_:=Am (blk_below (bB BK501.out) hb)
           have n2_:=Am (blk_below (bB BK502.out) hb)
           have n3_:=Am (bT (by repeat (first|(with_reducible first|exact HB.out|apply bA|apply bN|apply bD|refine bS ?_ GE501.out|refine bS ?_ GE502.out)|exact HB.out)) hb)
           clear BK501
           clear BK502
           clear HB
           have HO536:=n0_
           have BK501:=n1_
           have BK502:=n2_
           have HB:=n3_
           clear n0_ n1_ n2_ n3_
           (try clear hb)
           (try clear hb2)
           (try clear hk)
           (try clear hi)
           (try clear ho0)
           obtain ⟨Ao55,co55,eo55⟩:=Kd.R_slice HO536.out
           (first|subst eo55|(injection eo55 with f1_ f2_ f3_;have f4_:=f1_.symm;have f5_:=f3_.symm;clear f1_ f2_ f3_;subst f4_;subst f5_))
           refine hK.out _ _ ⟨bM BK501.out 0 rfl,bM BK501.out 1 rfl,bM BK501.out 2 rfl,bM BK501.out 3 rfl⟩ (fun hHeld=>?_)
           clear hK K
           refine norm_ (a':=?_) ?_ ?_
           rotate_left
           ·show Act.put _ (some 72) _ = _
            simp only [Act.put,lT,lZ,lS,i64_w,i32_w]
            rfl
           refine pure_ (i:=12) (N:=some 73) (v:=?_) (a':=?_) #[true,true,true,true,true,true,true,true,true,true,true,true,true,false,false,false] rfl rfl (any_of HT_.out (by kernel_rfl)) (fun _ _ _ h=>h) (Or.inl ⟨by rfl,?_⟩) ?_ ?_
           rotate_left
           ·intro w'
            go_simp
            with_reducible rfl
           rotate_left
           ·simp only [Act.put,lT,lZ,lS,i64_w,i32_w]
            rfl
           refine pure_ (i:=13) (N:=some 74) (v:=?_) (a':=?_) #[true,true,true,true,true,true,true,true,true,true,true,true,true,true,false,false] rfl rfl (any_of HT_.out (by kernel_rfl)) (fun _ _ _ h=>h) (Or.inl ⟨by rfl,?_⟩) ?_ ?_
           rotate_left
           ·intro w'
            go_simp
            with_reducible rfl
           rotate_left
           ·simp only [Act.put,lT,lZ,lS,i64_w,i32_w]
            rfl
           refine one_ (i:=14) (N:=none) #[true,true,true,true,true,true,true,true,true,true,true,true,true,true,true,false] rfl rfl (one_of HT_.out (by kernel_rfl)) (by decide) (fun K hK=>?_)
           have hs54:w53.cell? ⟨gb502,0,none⟩ = some (.string (⟨#[]⟩:ByteArray)):=bM BK502.out 0 rfl
           have hfs54:=bZ BK502.out 0
           have hns54_0:=NB501_502.out
           have hms54_0:=NB502_501.out
           have hs56:w53.cell? ⟨gb502,1,none⟩ = some (.slice none 0 0):=bM BK502.out 1 rfl
           have hfs56:=bZ BK502.out 1
           have hns56_0:=NB501_502.out
           have hms56_0:=NB502_501.out
           have hs57:w53.cell? ⟨gb502,2,none⟩ = some (.bool false):=bM BK502.out 2 rfl
           have hfs57:=bZ BK502.out 2
           have hns57_0:=NB501_502.out
           have hms57_0:=NB502_501.out
           have hs58:w53.cell? ⟨gb502,3,none⟩ = some (.string (⟨#[]⟩:ByteArray)):=bM BK502.out 3 rfl
           have hfs58:=bZ BK502.out 3
           have hns58_0:=NB501_502.out
           have hms58_0:=NB502_501.out
           refine skip_ (w1:=?_) (by rfl) rfl ?_ ?_
           rotate_left
           ·go_simp
            rfl
           refine hK.out _ _ ⟨((cell_far (p:=⟨gb502,_,none⟩) NB501_502.out _).trans (((cell_far (p:=⟨gb502,_,none⟩) NB501_502.out _).trans (((cell_far (p:=⟨gb502,_,none⟩) NB501_502.out _).trans (((cell_far (p:=⟨gb502,_,none⟩) NB501_502.out _).trans (hHeld.1)))))))),((cell_far (p:=⟨gb502,_,none⟩) NB501_502.out _).trans (((cell_far (p:=⟨gb502,_,none⟩) NB501_502.out _).trans (((cell_far (p:=⟨gb502,_,none⟩) NB501_502.out _).trans (((cell_far (p:=⟨gb502,_,none⟩) NB501_502.out _).trans (hHeld.2.1)))))))),((cell_far (p:=⟨gb502,_,none⟩) NB501_502.out _).trans (((cell_far (p:=⟨gb502,_,none⟩) NB501_502.out _).trans (((cell_far (p:=⟨gb502,_,none⟩) NB501_502.out _).trans (((cell_far (p:=⟨gb502,_,none⟩) NB501_502.out _).trans (hHeld.2.2.1)))))))),((cell_far (p:=⟨gb502,_,none⟩) NB501_502.out _).trans (((cell_far (p:=⟨gb502,_,none⟩) NB501_502.out _).trans (((cell_far (p:=⟨gb502,_,none⟩) NB501_502.out _).trans (((cell_far (p:=⟨gb502,_,none⟩) NB501_502.out _).trans (hHeld.2.2.2))))))))⟩ (fun hHeld=>?_)
           clear hK K
           refine pure_ (i:=15) (N:=some 5) (v:=?_) (a':=?_) #[true,true,true,true,true,true,true,true,true,true,true,true,true,true,true,true] rfl rfl (any_of HT_.out (by kernel_rfl)) (fun _ _ _ h=>h) (Or.inl ⟨by rfl,?_⟩) ?_ ?_
           rotate_left
           ·intro w'
            go_simp
            with_reducible rfl
           rotate_left
           ·simp only [Act.put,lT,lZ,lS,i64_w,i32_w]
            rfl
           refine done_ (done_of HT_.out (by kernel_rfl)) ?_
           try go_wp2
           refine bodyPost_ret (results_ct rfl _ _ gb502 25 #[.string t533, .slice Ao55 t534.length co55, .bool t537, .string t538] (0,0) _ rfl (by refine bB ?_;apply bP;refine bB ?_;exact BK502.out) Tryd.underlying25 rfl (by kernel_rfl)) rfl ?_
           exact ⟨_,by first|rfl|(simp <;> rfl)|(simp only [← hji47];first|rfl|(simp <;> rfl))|(simp [*] <;> rfl),by (with_reducible repeat (first|apply rA|apply rN|apply rD));exact Kd.R_mono (Kd.R_far (p:=⟨gb502,3,none⟩) (Kd.R_far (p:=⟨gb502,2,none⟩) (Kd.R_far (p:=⟨gb502,1,none⟩) (Kd.R_far (p:=⟨gb502,0,none⟩) (Kd.R_types HO536.out BK502.out (by decide)) (fun _ hk=>hk.2) (.string t533)) (fun _ hk=>hk.2) (.slice Ao55 t534.length co55)) (fun _ hk=>hk.2) (.bool t537)) (fun _ hk=>hk.2) (.string t538)) (fun _ hk=>trivial),by repeat (first|(with_reducible first|exact HB.out|apply bA|apply bN|apply bD|refine bS ?_ GE501.out|refine bS ?_ GE502.out)|exact HB.out)⟩
          ·rw [if_neg c49] at H
           exact absurd H (by simp)
         ·rw [if_neg c48] at H
          exact absurd H (by simp)
      ·rw [if_neg c30] at H
       exact absurd H (by simp)

/-! ### laws_lpTexts: function 41 -/
def laws_lpTexts.l0:Nat → List ByteArray → List ByteArray → Int → Option (Bool)
 | 0,_,_,_=>none
 | k + 1,x0,x1,x5=>if x5 < (x0.length:Int) then (if 0 ≤ x5 then (if x5 < (x1.length:Int) then (if (rdOf ByteArray.empty x0 x5).toList = (rdOf ByteArray.empty x1 x5).toList then (laws_lpTexts.l0 k x0 x1 (wrap64 (x5 + 1))) else (some false)) else (none)) else (none)) else (some true)
def laws_lpTexts.f (k:Nat) (l0:List ByteArray) (l1:List ByteArray):Option (Bool):=if (l0.length:Int) = (l1.length:Int) then (laws_lpTexts.l0 k l0 l1 0) else (some false)
theorem laws_lpTexts.mono_l:∀ k,(∀ y0 y1 y2,LeO (laws_lpTexts.l0 k y0 y1 y2) (laws_lpTexts.l0 (k + 1) y0 y1 y2))
 | 0=>fun _ _ _ r h=>by simp [laws_lpTexts.l0] at h
 | k + 1=>by
  have ih0:=laws_lpTexts.mono_l k
  ·intro y0 y1 y2
   unfold laws_lpTexts.l0
   repeat' first
   | (with_reducible apply ih0)
   | (with_reducible exact LeO.refl _)
   | (with_reducible exact LeO.none _)
   | (with_reducible refine LeO.ite ?_ ?_)
   | (with_reducible refine LeO.bind ?_ (fun _=>?_))




theorem laws_lpTexts.mono:∀ a0 a1 k,LeO (laws_lpTexts.f k a0 a1) (laws_lpTexts.f (k + 1) a0 a1):=by
 intro a0 a1 k
 have ih0:=laws_lpTexts.mono_l k
 unfold laws_lpTexts.f
 repeat' first
   | (with_reducible apply ih0)
   | (with_reducible exact LeO.refl _)
   | (with_reducible exact LeO.none _)
   | (with_reducible refine LeO.ite ?_ ?_)
   | (with_reducible refine LeO.bind ?_ (fun _=>?_))




theorem laws_lpTexts.calls (k:Nat) (A0:Option Addr) (c0:Nat) (l0:List ByteArray) (A1:Option Addr) (c1:Nat) (l1:List ByteArray) (r:Bool) (w:World) (hr0:Kd.C Kd.string w A0 l0.length l0) (hc0:l0.length ≤ c0) (hr1:Kd.C Kd.string w A1 l1.length l1) (hc1:l1.length ≤ c1) (h:laws_lpTexts.f k l0 l1 = some r) :
  Calls Tryd.prog 41 #[.slice A0 l0.length c0, .slice A1 l1.length c1] w fun e w'=>e = .returned (.bool r) ∧ Drawn0 w w':=by
 have HR0:=Am hr0
 have HC0:=Am hc0
 clear hr0 hc0
 have HR1:=Am hr1
 have HC1:=Am hc1
 clear hr1 hc1
 have H:(if (l0.length:Int) = (l1.length:Int) then (laws_lpTexts.l0 k l0 l1 0) else (some false)) = some r:=h
 clear h
 by_cases c3:(l0.length:Int) = (l1.length:Int)
 ·rw [if_pos c3] at H
  have c3b0:((l0.length:Int) == (l1.length:Int)) = true:=beq_iff_eq.mpr c3
  have c3b1:((l0.length:Int) != (l1.length:Int)) = false:=bne_eq_false_iff_eq.mpr c3
  have c3b2:(l0.length == l1.length) = true:=by first|simpa using c3|(simp at c3 ⊢;omega)
  clear c3
  have H':=Am H
  clear H
  go_enter Tryd.func41,Tryd.ntmps41
  go_wp2
  repeat (go_quiet (fail);try go_wp2)
  go_loopg [5] k (fun kq v5 w'=>∃ (x5_1:Int),v5 = .int .i64 x5_1 ∧ Aside0 (laws_lpTexts.l0 kq l0 l1 x5_1 = some r) ∧ Aside0 (kq ≤ k) ∧ Drawn0 w w')
  case atStart=>exact ⟨(0),(by first|rfl|(simp;done)|(simp only [i64_w,i32_w] <;> rfl)|(simp [*];done)|(simp [emp_bne,emp_beq];done)),H',⟨Nat.le_refl _⟩,by repeat (first|exact Drawn0.refl _|apply Drawn0.step)⟩
  case round =>
   clear H'
   try clear c1
   try clear p2
   try clear c3
   try clear c3b0
   try clear c3b1
   try clear c3b2
   obtain ⟨x5_1,rfl,HA,HK1,⟨m1,rfl⟩⟩:=hrel
   cases gk with
   | zero=>exact absurd HA.out (by simp [laws_lpTexts.l0])
   | succ k1 =>
    have H:=HA.out
    clear HA
    simp only [laws_lpTexts.l0] at H
    by_cases c4:x5_1 < (l0.length:Int)
    ·rw [if_pos c4] at H
     have c4b0:decide (x5_1 < (l0.length:Int)) = true:=decide_eq_true c4
     clear c4
     by_cases c5:0 ≤ x5_1
     ·rw [if_pos c5] at H
      have c5b0:decide (0 ≤ x5_1) = true:=decide_eq_true c5
      clear c5
      by_cases c6:x5_1 < (l1.length:Int)
      ·rw [if_pos c6] at H
       have c6b0:decide (x5_1 < (l1.length:Int)) = true:=decide_eq_true c6
       clear c6
       by_cases c7:(rdOf ByteArray.empty l0 x5_1).toList = (rdOf ByteArray.empty l1 x5_1).toList
       ·rw [if_pos c7] at H
        have c7b0:((rdOf ByteArray.empty l0 x5_1).toList == (rdOf ByteArray.empty l1 x5_1).toList) = true:=beq_iff_eq.mpr c7
        have c7b1:((rdOf ByteArray.empty l0 x5_1).toList != (rdOf ByteArray.empty l1 x5_1).toList) = false:=bne_eq_false_iff_eq.mpr c7
        clear c7
        have H':=Am H
        clear H
        have p540:0 ≤ (x5_1:Int):=oD (by assumption)
        have q540:x5_1 < (l0.length:Int):=oD (by assumption)
        obtain ⟨ad540,e540,hx540_0⟩:=Kd.at_string HR0.out x5_1 p540 q540
        cases e540
        replace p540:=eq_true p540
        replace q540:=eq_true q540
        have p541:0 ≤ (x5_1:Int):=oD (by assumption)
        have q541:x5_1 < (l1.length:Int):=oD (by assumption)
        obtain ⟨ad541,e541,hx541_0⟩:=Kd.at_string HR1.out x5_1 p541 q541
        cases e541
        replace p541:=eq_true p541
        replace q541:=eq_true q541
        go_wp2
        repeat (go_quiet (fail);try go_wp2)
        go_roundg k1
        case measure=>have:=HK1.out;omega
        case rel=>exact ⟨(wrap64 (x5_1 + 1)),(by first|rfl|(simp;done)|(simp only [i64_w,i32_w] <;> rfl)|(simp [*];done)|(simp [emp_bne,emp_beq];done)),H',⟨by have:=HK1.out;omega⟩,by repeat (first|exact Drawn0.refl _|apply Drawn0.step)⟩
       ·rw [if_neg c7] at H
        have c7b0:((rdOf ByteArray.empty l0 x5_1).toList == (rdOf ByteArray.empty l1 x5_1).toList) = false:=beq_eq_false_iff_ne.mpr c7
        have c7b1:((rdOf ByteArray.empty l0 x5_1).toList != (rdOf ByteArray.empty l1 x5_1).toList) = true:=bne_iff_ne.mpr c7
        obtain rfl:=Option.some.inj H
        have p540:0 ≤ (x5_1:Int):=oD (by assumption)
        have q540:x5_1 < (l0.length:Int):=oD (by assumption)
        obtain ⟨ad540,e540,hx540_0⟩:=Kd.at_string HR0.out x5_1 p540 q540
        cases e540
        replace p540:=eq_true p540
        replace q540:=eq_true q540
        have p541:0 ≤ (x5_1:Int):=oD (by assumption)
        have q541:x5_1 < (l1.length:Int):=oD (by assumption)
        obtain ⟨ad541,e541,hx541_0⟩:=Kd.at_string HR1.out x5_1 p541 q541
        cases e541
        replace p541:=eq_true p541
        replace q541:=eq_true q541
        go_wp2
        repeat (go_quiet (fail);try go_wp2)
        go_ret
        exact ⟨by first|rfl|(simp;done)|(simp only [i64_w,i32_w] <;> rfl)|(simp [*];done)|(simp [emp_bne,emp_beq];done),by repeat (first|exact Drawn0.refl _|apply Drawn0.step)⟩
      ·rw [if_neg c6] at H
       exact absurd H (by simp)
     ·rw [if_neg c5] at H
      exact absurd H (by simp)
    ·rw [if_neg c4] at H
     have c4b0:decide (x5_1 < (l0.length:Int)) = false:=decide_eq_false c4
     clear c4
     obtain rfl:=Option.some.inj H
     go_wp2
     repeat (go_quiet (fail);try go_wp2)
     go_ret
     exact ⟨by first|rfl|(simp;done)|(simp only [i64_w,i32_w] <;> rfl)|(simp [*];done)|(simp [emp_bne,emp_beq];done),by repeat (first|exact Drawn0.refl _|apply Drawn0.step)⟩
 ·rw [if_neg c3] at H
  have c3b0:((l0.length:Int) == (l1.length:Int)) = false:=beq_eq_false_iff_ne.mpr c3
  have c3b1:((l0.length:Int) != (l1.length:Int)) = true:=bne_iff_ne.mpr c3
  have c3b2:(l0.length == l1.length) = false:=by first|simpa using c3|(simp at c3 ⊢;omega)
  obtain rfl:=Option.some.inj H
  go_enter Tryd.func41,Tryd.ntmps41
  go_wp2
  repeat (go_quiet (fail);try go_wp2)
  go_ret
  exact ⟨by first|rfl|(simp;done)|(simp only [i64_w,i32_w] <;> rfl)|(simp [*];done)|(simp [emp_bne,emp_beq];done),by repeat (first|exact Drawn0.refl _|apply Drawn0.step)⟩

/-! ### laws_lpAddr: function 14 -/
def laws_lpAddr.f (k:Nat) (a0_0:ByteArray) (l0_1:List ByteArray) (a0_2:Bool) (a0_3:ByteArray) (a1_0:ByteArray) (l1_1:List ByteArray) (a1_2:Bool) (a1_3:ByteArray):Option (Bool):=if a0_0.toList = a1_0.toList then (if (a0_2 == a1_2) = true then (if a0_3.toList = a1_3.toList then ((laws_lpTexts.f k l0_1 l1_1).bind fun t544=>(some t544)) else (some false)) else (some false)) else (some false)
theorem laws_lpAddr.mono:∀ a0 a1 a2 a3 a4 a5 a6 a7 k,LeO (laws_lpAddr.f k a0 a1 a2 a3 a4 a5 a6 a7) (laws_lpAddr.f (k + 1) a0 a1 a2 a3 a4 a5 a6 a7):=by
 intro a0 a1 a2 a3 a4 a5 a6 a7 k
 unfold laws_lpAddr.f
 repeat' first
   | (with_reducible apply laws_lpTexts.mono)
   | (with_reducible exact LeO.refl _)
   | (with_reducible exact LeO.none _)
   | (with_reducible refine LeO.ite ?_ ?_)
   | (with_reducible refine LeO.bind ?_ (fun _=>?_))




theorem laws_lpAddr.calls (k:Nat) (a0_0:ByteArray) (A0_1:Option Addr) (c0_1:Nat) (l0_1:List ByteArray) (a0_2:Bool) (a0_3:ByteArray) (a1_0:ByteArray) (A1_1:Option Addr) (c1_1:Nat) (l1_1:List ByteArray) (a1_2:Bool) (a1_3:ByteArray) (r:Bool) (w:World) (hr0_1:Kd.C Kd.string w A0_1 l0_1.length l0_1) (hc0_1:l0_1.length ≤ c0_1) (hr1_1:Kd.C Kd.string w A1_1 l1_1.length l1_1) (hc1_1:l1_1.length ≤ c1_1) (h:laws_lpAddr.f k a0_0 l0_1 a0_2 a0_3 a1_0 l1_1 a1_2 a1_3 = some r) :
  Calls Tryd.prog 14 #[.agg #[.string a0_0, .slice A0_1 l0_1.length c0_1, .bool a0_2, .string a0_3], .agg #[.string a1_0, .slice A1_1 l1_1.length c1_1, .bool a1_2, .string a1_3]] w fun e w'=>e = .returned (.bool r) ∧ Below w.heap.size w w':=by
 have hu25:=Tryd.underlying25
 have HR0_1:=Am hr0_1
 have HC0_1:=Am hc0_1
 clear hr0_1 hc0_1
 have HR1_1:=Am hr1_1
 have HC1_1:=Am hc1_1
 clear hr1_1 hc1_1
 have HB:=Am (Below.refl w.heap.size w)
 have H:(if a0_0.toList = a1_0.toList then (if (a0_2 == a1_2) = true then (if a0_3.toList = a1_3.toList then ((laws_lpTexts.f k l0_1 l1_1).bind fun t544=>(some t544)) else (some false)) else (some false)) else (some false)) = some r:=h
 clear h
 by_cases c3:a0_0.toList = a1_0.toList
 ·rw [if_pos c3] at H
  have c3b0:(a0_0.toList == a1_0.toList) = true:=beq_iff_eq.mpr c3
  have c3b1:(a0_0.toList != a1_0.toList) = false:=bne_eq_false_iff_eq.mpr c3
  clear c3
  by_cases c4:(a0_2 == a1_2) = true
  ·rw [if_pos c4] at H
   have c4b0:(a0_2 == a1_2) = true:=c4
   (try (have c4b1:decide (a0_2 = a1_2) = true:=by simpa using c4))
   (try (have c4b2:(a0_2 == a1_2) = true:=by simpa using c4))
   clear c4
   by_cases c5:a0_3.toList = a1_3.toList
   ·rw [if_pos c5] at H
    have c5b0:(a0_3.toList == a1_3.toList) = true:=beq_iff_eq.mpr c5
    have c5b1:(a0_3.toList != a1_3.toList) = false:=bne_eq_false_iff_eq.mpr c5
    clear c5
    replace H:=bI H
    obtain ⟨t544,A60,H⟩:=H
    replace H:(some t544) = some r:=H
    have A6:=Am A60
    clear A60
    obtain rfl:=Option.some.inj H
    go_enter Tryd.func14,Tryd.ntmps14
    go_wp2_with (first|((with_reducible refine gate_dst (N:=2) rfl ?_);refine box_event ?hg (N:=2) ?hd (cs:=#[.string a0_0, .slice A0_1 l0_1.length c0_1, .bool a0_2, .string a0_3]) (t:=25) ?hr ?_;(case hd=>rfl);(case hg=>rfl);(case hr=>(go_simp <;> rfl));intro gb542 hg w7 hbox hb;have n0_:=Am (bT (by repeat (first|(with_reducible first|exact HB.out|apply bA|apply bN|apply bD)|exact HB.out)) hb);have n1_:=Am (hbox);have n2_:=Am ((by rw [hg];exact (bU (by repeat (first|(with_reducible first|exact HB.out|apply bA|apply bN|apply bD)|exact HB.out))):w.heap.size ≤ gb542));have n3_:=n2_;clear HB;have HB:=n0_;have BK542:=n1_;have GW542:=n2_;have GE542:=n3_;clear n0_ n1_ n2_ n3_ hb hbox hg)|((with_reducible refine gate_dst (N:=3) rfl ?_);refine box_event ?hg (N:=3) ?hd (cs:=#[.string a1_0, .slice A1_1 l1_1.length c1_1, .bool a1_2, .string a1_3]) (t:=25) ?hr ?_;(case hd=>rfl);(case hg=>rfl);(case hr=>(go_simp <;> rfl));intro gb543 hg w8 hbox hb;have n0_:=Am (blk_below (bB BK542.out) hb);have n1_:=Am (bT (by repeat (first|(with_reducible first|exact HB.out|apply bA|apply bN|apply bD|refine bS ?_ GE542.out)|exact HB.out)) hb);have n2_:=Am (hbox);have n3_:=Am ((by rw [hg];exact (bU (by repeat (first|(with_reducible first|exact HB.out|apply bA|apply bN|apply bD|refine bS ?_ GE542.out)|exact HB.out))):w.heap.size ≤ gb543));have n4_:=n3_;have n5_:=Am ((by rw [hg];exact Nat.ne_of_lt (blk_lt (bB BK542.out)):gb542 ≠ gb543));have n6_:=Am ((by rw [hg];exact Nat.ne_of_gt (blk_lt (bB BK542.out)):gb543 ≠ gb542));clear BK542 HB;have BK542:=n0_;have HB:=n1_;have BK543:=n2_;have GW543:=n3_;have GE543:=n4_;have NB542_543:=n5_;have NB543_542:=n6_;clear n0_ n1_ n2_ n3_ n4_ n5_ n6_ hb hbox hg;have hnb9:=NB542_543.out;have hnc9:=NB543_542.out;obtain ⟨hcz10_0,hcz10_1,hcz10_2,hcz10_3,hfz10_0,hfz10_1,hfz10_2,hfz10_3⟩:=bX BK542.out;obtain ⟨hcz11_0,hcz11_1,hcz11_2,hcz11_3,hfz11_0,hfz11_1,hfz11_2,hfz11_3⟩:=bX BK543.out)|(go_at_call 41;(with_reducible refine (laws_lpTexts.calls k _ _ l0_1 _ _ l1_1 t544 _ ?side1 ?side2 ?side3 ?side4 A6.out).mono ?_);(case side1=>repeat (first|exact (Kd.C_below HR0_1.out HB.out)|(with_reducible refine bC ?_)));(case side2=>exact HC0_1.out);(case side3=>repeat (first|exact (Kd.C_below HR1_1.out HB.out)|(with_reducible refine bC ?_)));(case side4=>exact HC1_1.out);rintro e w' ⟨rfl,⟨nd,rfl⟩⟩))
    go_ret
    exact ⟨by first|rfl|(simp <;> rfl)|(simp [*] <;> rfl),by repeat (first|(with_reducible first|exact HB.out|apply bA|apply bN|apply bD|refine bS ?_ GE542.out|refine bS ?_ GE543.out)|exact HB.out)⟩
   ·rw [if_neg c5] at H
    have c5b0:(a0_3.toList == a1_3.toList) = false:=beq_eq_false_iff_ne.mpr c5
    have c5b1:(a0_3.toList != a1_3.toList) = true:=bne_iff_ne.mpr c5
    obtain rfl:=Option.some.inj H
    go_enter Tryd.func14,Tryd.ntmps14
    go_wp2_with (first|((with_reducible refine gate_dst (N:=2) rfl ?_);refine box_event ?hg (N:=2) ?hd (cs:=#[.string a0_0, .slice A0_1 l0_1.length c0_1, .bool a0_2, .string a0_3]) (t:=25) ?hr ?_;(case hd=>rfl);(case hg=>rfl);(case hr=>(go_simp <;> rfl));intro gb542 hg w12 hbox hb;have n0_:=Am (bT (by repeat (first|(with_reducible first|exact HB.out|apply bA|apply bN|apply bD)|exact HB.out)) hb);have n1_:=Am (hbox);have n2_:=Am ((by rw [hg];exact (bU (by repeat (first|(with_reducible first|exact HB.out|apply bA|apply bN|apply bD)|exact HB.out))):w.heap.size ≤ gb542));have n3_:=n2_;clear HB;have HB:=n0_;have BK542:=n1_;have GW542:=n2_;have GE542:=n3_;clear n0_ n1_ n2_ n3_ hb hbox hg)|((with_reducible refine gate_dst (N:=3) rfl ?_);refine box_event ?hg (N:=3) ?hd (cs:=#[.string a1_0, .slice A1_1 l1_1.length c1_1, .bool a1_2, .string a1_3]) (t:=25) ?hr ?_;(case hd=>rfl);(case hg=>rfl);(case hr=>(go_simp <;> rfl));intro gb543 hg w13 hbox hb;have n0_:=Am (blk_below (bB BK542.out) hb);have n1_:=Am (bT (by repeat (first|(with_reducible first|exact HB.out|apply bA|apply bN|apply bD|refine bS ?_ GE542.out)|exact HB.out)) hb);have n2_:=Am (hbox);have n3_:=Am ((by rw [hg];exact (bU (by repeat (first|(with_reducible first|exact HB.out|apply bA|apply bN|apply bD|refine bS ?_ GE542.out)|exact HB.out))):w.heap.size ≤ gb543));have n4_:=n3_;have n5_:=Am ((by rw [hg];exact Nat.ne_of_lt (blk_lt (bB BK542.out)):gb542 ≠ gb543));have n6_:=Am ((by rw [hg];exact Nat.ne_of_gt (blk_lt (bB BK542.out)):gb543 ≠ gb542));clear BK542 HB;have BK542:=n0_;have HB:=n1_;have BK543:=n2_;have GW543:=n3_;have GE543:=n4_;have NB542_543:=n5_;have NB543_542:=n6_;clear n0_ n1_ n2_ n3_ n4_ n5_ n6_ hb hbox hg;have hnb14:=NB542_543.out;have hnc14:=NB543_542.out;obtain ⟨hcz15_0,hcz15_1,hcz15_2,hcz15_3,hfz15_0,hfz15_1,hfz15_2,hfz15_3⟩:=bX BK542.out;obtain ⟨hcz16_0,hcz16_1,hcz16_2,hcz16_3,hfz16_0,hfz16_1,hfz16_2,hfz16_3⟩:=bX BK543.out))
    go_ret
    exact ⟨by first|rfl|(simp <;> rfl)|(simp [*] <;> rfl),by repeat (first|(with_reducible first|exact HB.out|apply bA|apply bN|apply bD|refine bS ?_ GE542.out|refine bS ?_ GE543.out)|exact HB.out)⟩
  ·rw [if_neg c4] at H
   have c4b0:(a0_2 == a1_2) = false:=by simpa using c4
   (try (have c4b1:decide (a0_2 = a1_2) = false:=by simpa using c4))
   (try (have c4b2:(a0_2 == a1_2) = false:=by simpa using c4))
   (try (have c4b3:¬ (a0_2 = a1_2):=by simpa using c4))
   clear c4
   obtain rfl:=Option.some.inj H
   go_enter Tryd.func14,Tryd.ntmps14
   go_wp2_with (first|((with_reducible refine gate_dst (N:=2) rfl ?_);refine box_event ?hg (N:=2) ?hd (cs:=#[.string a0_0, .slice A0_1 l0_1.length c0_1, .bool a0_2, .string a0_3]) (t:=25) ?hr ?_;(case hd=>rfl);(case hg=>rfl);(case hr=>(go_simp <;> rfl));intro gb542 hg w17 hbox hb;have n0_:=Am (bT (by repeat (first|(with_reducible first|exact HB.out|apply bA|apply bN|apply bD)|exact HB.out)) hb);have n1_:=Am (hbox);have n2_:=Am ((by rw [hg];exact (bU (by repeat (first|(with_reducible first|exact HB.out|apply bA|apply bN|apply bD)|exact HB.out))):w.heap.size ≤ gb542));have n3_:=n2_;clear HB;have HB:=n0_;have BK542:=n1_;have GW542:=n2_;have GE542:=n3_;clear n0_ n1_ n2_ n3_ hb hbox hg)|((with_reducible refine gate_dst (N:=3) rfl ?_);refine box_event ?hg (N:=3) ?hd (cs:=#[.string a1_0, .slice A1_1 l1_1.length c1_1, .bool a1_2, .string a1_3]) (t:=25) ?hr ?_;(case hd=>rfl);(case hg=>rfl);(case hr=>(go_simp <;> rfl));intro gb543 hg w18 hbox hb;have n0_:=Am (blk_below (bB BK542.out) hb);have n1_:=Am (bT (by repeat (first|(with_reducible first|exact HB.out|apply bA|apply bN|apply bD|refine bS ?_ GE542.out)|exact HB.out)) hb);have n2_:=Am (hbox);have n3_:=Am ((by rw [hg];exact (bU (by repeat (first|(with_reducible first|exact HB.out|apply bA|apply bN|apply bD|refine bS ?_ GE542.out)|exact HB.out))):w.heap.size ≤ gb543));have n4_:=n3_;have n5_:=Am ((by rw [hg];exact Nat.ne_of_lt (blk_lt (bB BK542.out)):gb542 ≠ gb543));have n6_:=Am ((by rw [hg];exact Nat.ne_of_gt (blk_lt (bB BK542.out)):gb543 ≠ gb542));clear BK542 HB;have BK542:=n0_;have HB:=n1_;have BK543:=n2_;have GW543:=n3_;have GE543:=n4_;have NB542_543:=n5_;have NB543_542:=n6_;clear n0_ n1_ n2_ n3_ n4_ n5_ n6_ hb hbox hg;have hnb19:=NB542_543.out;have hnc19:=NB543_542.out;obtain ⟨hcz20_0,hcz20_1,hcz20_2,hcz20_3,hfz20_0,hfz20_1,hfz20_2,hfz20_3⟩:=bX BK542.out;obtain ⟨hcz21_0,hcz21_1,hcz21_2,hcz21_3,hfz21_0,hfz21_1,hfz21_2,hfz21_3⟩:=bX BK543.out))
   go_ret
   exact ⟨by first|rfl|(simp <;> rfl)|(simp [*] <;> rfl),by repeat (first|(with_reducible first|exact HB.out|apply bA|apply bN|apply bD|refine bS ?_ GE542.out|refine bS ?_ GE543.out)|exact HB.out)⟩
 ·rw [if_neg c3] at H
  have c3b0:(a0_0.toList == a1_0.toList) = false:=beq_eq_false_iff_ne.mpr c3
  have c3b1:(a0_0.toList != a1_0.toList) = true:=bne_iff_ne.mpr c3
  obtain rfl:=Option.some.inj H
  go_enter Tryd.func14,Tryd.ntmps14
  go_wp2_with (first|((with_reducible refine gate_dst (N:=2) rfl ?_);refine box_event ?hg (N:=2) ?hd (cs:=#[.string a0_0, .slice A0_1 l0_1.length c0_1, .bool a0_2, .string a0_3]) (t:=25) ?hr ?_;(case hd=>rfl);(case hg=>rfl);(case hr=>(go_simp <;> rfl));intro gb542 hg w22 hbox hb;have n0_:=Am (bT (by repeat (first|(with_reducible first|exact HB.out|apply bA|apply bN|apply bD)|exact HB.out)) hb);have n1_:=Am (hbox);have n2_:=Am ((by rw [hg];exact (bU (by repeat (first|(with_reducible first|exact HB.out|apply bA|apply bN|apply bD)|exact HB.out))):w.heap.size ≤ gb542));have n3_:=n2_;clear HB;have HB:=n0_;have BK542:=n1_;have GW542:=n2_;have GE542:=n3_;clear n0_ n1_ n2_ n3_ hb hbox hg)|((with_reducible refine gate_dst (N:=3) rfl ?_);refine box_event ?hg (N:=3) ?hd (cs:=#[.string a1_0, .slice A1_1 l1_1.length c1_1, .bool a1_2, .string a1_3]) (t:=25) ?hr ?_;(case hd=>rfl);(case hg=>rfl);(case hr=>(go_simp <;> rfl));intro gb543 hg w23 hbox hb;have n0_:=Am (blk_below (bB BK542.out) hb);have n1_:=Am (bT (by repeat (first|(with_reducible first|exact HB.out|apply bA|apply bN|apply bD|refine bS ?_ GE542.out)|exact HB.out)) hb);have n2_:=Am (hbox);have n3_:=Am ((by rw [hg];exact (bU (by repeat (first|(with_reducible first|exact HB.out|apply bA|apply bN|apply bD|refine bS ?_ GE542.out)|exact HB.out))):w.heap.size ≤ gb543));have n4_:=n3_;have n5_:=Am ((by rw [hg];exact Nat.ne_of_lt (blk_lt (bB BK542.out)):gb542 ≠ gb543));have n6_:=Am ((by rw [hg];exact Nat.ne_of_gt (blk_lt (bB BK542.out)):gb543 ≠ gb542));clear BK542 HB;have BK542:=n0_;have HB:=n1_;have BK543:=n2_;have GW543:=n3_;have GE543:=n4_;have NB542_543:=n5_;have NB543_542:=n6_;clear n0_ n1_ n2_ n3_ n4_ n5_ n6_ hb hbox hg;have hnb24:=NB542_543.out;have hnc24:=NB543_542.out;obtain ⟨hcz25_0,hcz25_1,hcz25_2,hcz25_3,hfz25_0,hfz25_1,hfz25_2,hfz25_3⟩:=bX BK542.out;obtain ⟨hcz26_0,hcz26_1,hcz26_2,hcz26_3,hfz26_0,hfz26_1,hfz26_2,hfz26_3⟩:=bX BK543.out))
  go_ret
  exact ⟨by first|rfl|(simp <;> rfl)|(simp [*] <;> rfl),by repeat (first|(with_reducible first|exact HB.out|apply bA|apply bN|apply bD|refine bS ?_ GE542.out|refine bS ?_ GE543.out)|exact HB.out)⟩

end Go.Proofs.YtbnnamjaljohiaaDoor.P
