-- Written by a program of this session (patch_print.py over the kit's print; given texts in wip/given).
import Derived.Test.YtochmlkladpfgaaDoorPx0
import Derived.Test.YtochmlkladpfgaaDoorPx8
import Derived.Test.YtochmlkladpfgaaDoorPx12
namespace Go.Proofs.YtochmlkladpfgaaDoor.P
open Go.RowKit Go.Proofs.YtochmlkladpfgaaDoorW.PrintWords Go.Proofs.YtochmlkladpfgaaDoorW.PrintLast Go.Proofs.YtochmlkladpfgaaDoorW.PrintMore
attribute [local go_sem] max2_int min2_int max_two min_two max_three min_three max_four min_four   -- for this text's walks alone
set_option linter.unusedVariables false
set_option linter.unusedSimpArgs false
set_option maxHeartbeats 8000000
set_option maxRecDepth 100000

/-! ### spec_l1Small: function 39 -/
/-- A letter, small. -/
def spec_l1Small.lo (x:Int):Int:=if 65 ≤ x ∧ x ≤ 90 then x + 32 else x
def spec_l1Small.f (a0:ByteArray):Option ByteArray:=if a0.size ≤ 1000000 then some (strOfNums ((bytesOf a0).map spec_l1Small.lo)) else none
/-- The first k bytes are small ones. -/
def spec_l1Small.upto (xs:List Int) (k:Nat):List Int:=(xs.take k).map spec_l1Small.lo ++ xs.drop k
/-- The new row holds these bytes, in front. -/
def spec_l1Small.Row (w wr:World) (e:Nat) (xs:List Int):Prop :=
 Below w.heap.size w wr ∧ ∃ C:Array Value,wr.heap[w.heap.size]? = some (.cells C e (C.size,C.size + 1)) ∧ xs.length ≤ C.size ∧ ∀ j,j < xs.length → C[j]? = some (.int .u8 (xs.getD j 0))
theorem spec_l1Small.upto_length (xs:List Int) (k:Nat):(spec_l1Small.upto xs k).length = xs.length:=by
 unfold spec_l1Small.upto;simp;omega
theorem spec_l1Small.upto_at (xs:List Int) (k:Nat) (h:k < xs.length):(spec_l1Small.upto xs k).getD k 0 = xs.getD k 0:=by
 unfold spec_l1Small.upto
 rw [List.getD_eq_getElem?_getD,List.getElem?_append_right (by simp;omega)]
 simp only [List.length_map,List.length_take,List.getElem?_drop,List.getD_eq_getElem?_getD]
 rw [show k + (k - min k xs.length) = k by omega]
theorem spec_l1Small.upto_succ (xs:List Int) (k:Nat) (h:k < xs.length):spec_l1Small.upto xs (k + 1) = (spec_l1Small.upto xs k).set k (spec_l1Small.lo (xs.getD k 0)):=by
 unfold spec_l1Small.upto
 have hl:((xs.take k).map spec_l1Small.lo).length = k:=by simp;omega
 rw [List.set_append_right k _ (by omega),hl,Nat.sub_self,List.drop_eq_getElem_cons h,List.set_cons_zero,List.take_succ_eq_append_getElem h,List.map_append,List.getD_eq_getElem?_getD,List.getElem?_eq_getElem h]
 simp
theorem spec_l1Small.upto_same (xs:List Int) (k:Nat) (h:k < xs.length) (hn:¬ (65 ≤ xs.getD k 0 ∧ xs.getD k 0 ≤ 90)):spec_l1Small.upto xs (k + 1) = spec_l1Small.upto xs k:=by
 rw [spec_l1Small.upto_succ xs k h]
 have:spec_l1Small.lo (xs.getD k 0) = (spec_l1Small.upto xs k).getD k 0:=by
  rw [spec_l1Small.upto_at xs k h];unfold spec_l1Small.lo;rw [if_neg hn]
 rw [this,List.getD_eq_getElem?_getD,List.getElem?_eq_getElem (by rw [spec_l1Small.upto_length];exact h),Option.getD_some,List.set_getElem_self]
theorem spec_l1Small.upto_all (xs:List Int):spec_l1Small.upto xs xs.length = xs.map spec_l1Small.lo:=by
 unfold spec_l1Small.upto;simp
theorem spec_l1Small.Row.new (w:World) (e:Nat) (s:ByteArray):spec_l1Small.Row w (Lib.bytesWorld w e s) e (bytesOf s):=by
 refine ⟨⟨rfl,rfl,rfl,by rw [Lib.bytesWorld_size];omega,fun k hk=>Lib.bytesWorld_at_old w e s k hk⟩,_,Lib.bytesWorld_at_new w e s,?_,fun j hj=>?_⟩
 ·rw [bytesOf_length];simp [Lib.bytesCells]
 ·rw [bytesOf_length] at hj
  have h:=Lib.bytesWorld_cell w e s j hj
  simp only [World.cell?,Lib.bytesWorld_at_new] at h
  rw [show (bytesOf s).getD j 0 = ((s.data.toList.getD j 0).toNat:Int) by
   unfold bytesOf
   rw [List.getD_eq_getElem?_getD,List.getD_eq_getElem?_getD,List.getElem?_map]
   have:j < s.data.toList.length:=by rw [data_length];exact hj
   rw [List.getElem?_eq_getElem this];rfl]
  simpa using h
theorem spec_l1Small.Row.cell {w wr:World} {e:Nat} {xs:List Int} (h:spec_l1Small.Row w wr e xs) {j:Nat} (hj:j < xs.length):wr.cell? ⟨w.heap.size,j,none⟩ = some (.int .u8 (xs.getD j 0)):=by
 obtain ⟨_,C,hC,hl,hx⟩:=h
 simp only [World.cell?,hC]
 simpa using hx j hj
theorem spec_l1Small.Row.free {w wr:World} {e:Nat} {xs:List Int} (h:spec_l1Small.Row w wr e xs) {j:Nat} (hj:j < xs.length):wr.frozen? ⟨w.heap.size,j,none⟩ = false:=by
 obtain ⟨_,C,hC,hl,hx⟩:=h
 simp only [World.frozen?,hC]
 simp;omega
theorem spec_l1Small.Row.set {w wr:World} {e:Nat} {xs:List Int} (h:spec_l1Small.Row w wr e xs) (j:Nat) (x:Int):spec_l1Small.Row w (wr.setCell ⟨w.heap.size,j,none⟩ (.int .u8 x)) e (xs.set j x):=by
 obtain ⟨hb,C,hC,hl,hx⟩:=h
 refine ⟨below_set hb (Nat.le_refl _),C.setIfInBounds j (.int .u8 x),?_,by simpa using hl,fun i hi=>?_⟩
 ·simp [World.setCell,Array.getElem?_modify,hC]
 ·rw [List.length_set] at hi
  by_cases hij:i = j
  ·subst hij
   rw [Array.getElem?_setIfInBounds_self_of_lt (by omega),List.getD_eq_getElem?_getD,List.getElem?_set_self hi];rfl
  ·rw [Array.getElem?_setIfInBounds_ne (Ne.symm hij),hx i hi,List.getD_eq_getElem?_getD,List.getD_eq_getElem?_getD,List.getElem?_set_ne (Ne.symm hij)]
theorem spec_l1Small.Row.reads {w wr:World} {e:Nat} {xs:List Int} (h:spec_l1Small.Row w wr e xs) (hm:xs.length ≤ 1000000):ReadsInt wr .u8 (some ⟨w.heap.size,0,none⟩) xs.length xs:=by
 refine ⟨rfl,by omega,fun _=>⟨_,rfl,fun j hj=>?_⟩⟩
 rw [add_plain];exact h.cell hj
theorem spec_l1Small.byte_bd (s:ByteArray) (k:Nat):0 ≤ (bytesOf s).getD k 0 ∧ (bytesOf s).getD k 0 ≤ 255:=by
 have:=bt_range s k
 rw [← rd_bytesOf] at this
 simpa [rd] using this
theorem spec_l1Small.calls (a0:ByteArray) (r:ByteArray) (w:World) (h:spec_l1Small.f a0 = some r) :
  Calls Tryd.prog 39 #[.string a0] w fun e w'=>e = .returned (.string r) ∧ Below w.heap.size w w':=by
 have hs:a0.size ≤ 1000000:=by
  unfold spec_l1Small.f at h
  split at h
  ·assumption
  ·cases h
 have HR:=Aside0.mk (show strOfNums ((bytesOf a0).map spec_l1Small.lo) = r by
  unfold spec_l1Small.f at h
  rw [if_pos hs] at h
  exact Option.some.inj h)
 clear h
 obtain ⟨W0,cap,hcv,HW⟩:∃ W0 cap,(convert 9 30 (.string a0)).run Tryd.prog w = .ok (.slice (some ⟨w.heap.size,0,none⟩) a0.size cap) W0 ∧ Aside0 (spec_l1Small.Row w W0 5 (spec_l1Small.upto (bytesOf a0) 0)):=by
  refine ⟨_,_,Lib.run_convert_string_bytes w 9 30 5 a0 Tryd.underlying9 Tryd.underlying30 Tryd.underlying5,⟨?_⟩⟩
  have:=spec_l1Small.Row.new w 5 a0
  simpa [spec_l1Small.upto] using this
 go_enter Tryd.func39,Tryd.ntmps39
 go_wp2
 go_loopw [4] (fun v wr=>∃ k:Nat,k ≤ a0.size ∧ v = .int .i64 k ∧ Aside0 (spec_l1Small.Row w wr 5 (spec_l1Small.upto (bytesOf a0) k))) (fun v _=>a0.size - (intOf v).toNat)
 case atStart=>exact ⟨0,Nat.zero_le _,rfl,HW⟩
 case round =>
  clear hcv HW
  obtain ⟨k,hk,rfl,HK⟩:=hrel
  by_cases hlt:k < a0.size
  ·have HL:=Aside0.mk (bytesOf_length a0)
   have hbd:=spec_l1Small.byte_bd a0 k
   have hc:=HK.out.cell (j:=k) (by rw [spec_l1Small.upto_length,HL.out];exact hlt)
   rw [spec_l1Small.upto_at _ k (by rw [HL.out];exact hlt)] at hc
   have hf:=HK.out.free (j:=k) (by rw [spec_l1Small.upto_length,HL.out];exact hlt)
   generalize hx:(bytesOf a0).getD k 0 = x at hc hbd
   have HX:=Aside0.mk hx
   clear hx
   by_cases h1:65 ≤ x
   ·by_cases h2:x ≤ 90
    ·have HN:=Aside0.mk (HK.out.set k (x + 32))
     go_wp2
     go_roundw
     case rel=>exact ⟨k + 1,by omega,by go_num,⟨by
      rw [spec_l1Small.upto_succ _ k (by rw [HL.out];exact hlt),HX.out,show spec_l1Small.lo x = x + 32 by unfold spec_l1Small.lo;rw [if_pos ⟨h1,h2⟩]]
      exact HN.out⟩⟩
     case measure=>simp [intOf];omega
    ·go_wp2
     go_roundw
     case rel=>exact ⟨k + 1,by omega,by go_num,⟨by
      rw [spec_l1Small.upto_same _ k (by rw [HL.out];exact hlt) (by rw [HX.out];omega)]
      exact HK.out⟩⟩
     case measure=>simp [intOf];omega
   ·go_wp2
    go_roundw
    case rel=>exact ⟨k + 1,by omega,by go_num,⟨by
     rw [spec_l1Small.upto_same _ k (by rw [HL.out];exact hlt) (by rw [HX.out];omega)]
     exact HK.out⟩⟩
    case measure=>simp [intOf];omega
  ·obtain rfl:k = a0.size:=by omega
   have HL:=Aside0.mk (bytesOf_length a0)
   have hcb:(convert 30 9 (.slice (some ⟨w.heap.size,0,none⟩) a0.size cap)).run Tryd.prog wr = .ok (.string r) wr:=by
    have e:spec_l1Small.upto (bytesOf a0) a0.size = (bytesOf a0).map spec_l1Small.lo:=by
     rw [← HL.out];exact spec_l1Small.upto_all _
    have h:=HK.out
    rw [e] at h
    have hl:((bytesOf a0).map spec_l1Small.lo).length = a0.size:=by rw [List.length_map,HL.out]
    have hr:=h.reads (by omega)
    rw [hl] at hr
    rw [← HR.out]
    exact string_of_reads Tryd.underlying30 Tryd.underlying5 Tryd.underlying9 hr
   have HB:=Aside0.mk HK.out.1
   go_wp2
   go_ret
   exact ⟨rfl,HB.out⟩

/-! ### spec_l1Whole: function 20 -/
def spec_l1Whole.l0:Nat → ByteArray → ByteArray → ByteArray → Int → Option (ByteArray × List ByteArray × Bool × ByteArray × Bool)
 | 0,_,_,_,_=>none
 | k + 1,x0,x4,x5,x6=>if x6 < (x0.size:Int) then (if 0 ≤ x6 then (if (bt x0 x6) = 47 then (if x6 ≤ (x0.size:Int) then ((spec_l1Small.f (x0.extract 0 (x6:Int).toNat)).bind fun t306=>((spec_l1Way.f k t306 ([]:List ByteArray) false (⟨#[]⟩:ByteArray) (x0.extract (x6:Int).toNat x0.size)).bind fun bt307=>(some (bt307.1,bt307.2.1,bt307.2.2.1,bt307.2.2.2.1,bt307.2.2.2.2)))) else (none)) else (if (bt x0 x6) = 63 then (if x6 ≤ (x0.size:Int) then ((spec_l1Small.f (x0.extract 0 (x6:Int).toNat)).bind fun t314=>((spec_l1Way.f k t314 ([]:List ByteArray) false (⟨#[]⟩:ByteArray) (x0.extract (x6:Int).toNat x0.size)).bind fun bt315=>(some (bt315.1,bt315.2.1,bt315.2.2.1,bt315.2.2.2.1,bt315.2.2.2.2)))) else (none)) else (spec_l1Whole.l0 k x0 x4 x5 (wrap64 (x6 + 1))))) else (none)) else ((spec_l1Small.f x4).bind fun t322=>((spec_l1Way.f k t322 ([]:List ByteArray) false (⟨#[]⟩:ByteArray) x5).bind fun bt323=>(some (bt323.1,bt323.2.1,bt323.2.2.1,bt323.2.2.2.1,bt323.2.2.2.2))))
def spec_l1Whole.f (k:Nat) (a0:ByteArray):Option (ByteArray × List ByteArray × Bool × ByteArray × Bool):=spec_l1Whole.l0 k a0 a0 (⟨#[]⟩:ByteArray) 0
theorem spec_l1Whole.mono_l:∀ k,(∀ y0 y1 y2 y3,LeO (spec_l1Whole.l0 k y0 y1 y2 y3) (spec_l1Whole.l0 (k + 1) y0 y1 y2 y3))
 | 0=>fun _ _ _ _ r h=>by simp [spec_l1Whole.l0] at h
 | k + 1=>by
  have ih0:=spec_l1Whole.mono_l k
  ·intro y0 y1 y2 y3
   unfold spec_l1Whole.l0
   repeat' first
   | (with_reducible exact ih0 _ _ _ _)
   | (with_reducible exact spec_l1Way.mono _ _ _ _ _ _)
   | (with_reducible exact LeO.refl _)
   | (with_reducible exact LeO.none _)
   | (with_reducible refine LeO.ite ?_ ?_)
   | (with_reducible refine LeO.bind ?_ (fun _=>?_))
   | exact ih0 _ _ _ _
   | exact spec_l1Way.mono _ _ _ _ _ _
   | exact LeO.none _
   | refine LeO.ite ?_ ?_
   | refine LeO.bind ?_ (fun _=>?_)
theorem spec_l1Whole.mono:∀ a0 k,LeO (spec_l1Whole.f k a0) (spec_l1Whole.f (k + 1) a0):=by
 intro a0 k
 have ih0:=spec_l1Whole.mono_l k
 unfold spec_l1Whole.f
 repeat' first
   | (with_reducible exact ih0 _ _ _ _)
   | (with_reducible exact spec_l1Way.mono _ _ _ _ _ _)
   | (with_reducible exact LeO.refl _)
   | (with_reducible exact LeO.none _)
   | (with_reducible refine LeO.ite ?_ ?_)
   | (with_reducible refine LeO.bind ?_ (fun _=>?_))
   | exact ih0 _ _ _ _
   | exact spec_l1Way.mono _ _ _ _ _ _
   | exact LeO.none _
   | refine LeO.ite ?_ ?_
   | refine LeO.bind ?_ (fun _=>?_)
theorem spec_l1Whole.calls (k:Nat) (a0:ByteArray) (r1:ByteArray) (r2:List ByteArray) (r3:Bool) (r4:ByteArray) (r5:Bool) (w:World) (h:spec_l1Whole.f k a0 = some (r1,r2,r3,r4,r5)) :
  Calls Tryd.prog 20 #[.string a0] w fun e w'=>∃ v1_:Value,e = .returned (.tuple #[.agg #[.string r1,v1_,.bool r3,.string r4],.bool r5]) ∧ Kd.R Kd.string 9 w' w.heap.size (fun _=>True) v1_ r2 ∧ Below w.heap.size w w':=by
 have hu24:=Tryd.underlying24
 have HB:=Aside0.mk (Below.refl w.heap.size w)
 have H:(spec_l1Whole.l0 k a0 a0 (⟨#[]⟩:ByteArray) 0) = some (r1,r2,r3,r4,r5):=h
 clear h
 have H':=Aside0.mk H
 clear H
 go_enter Tryd.func20,Tryd.ntmps20
 go_wp2_with (first|((with_reducible refine gate_dst (N:=2) rfl ?_);refine box_event ?hg (N:=2) ?hd (cs:=#[.string (⟨#[]⟩:ByteArray),.slice none 0 0,.bool false,.string (⟨#[]⟩:ByteArray)]) (t:=24) ?hr ?_;(case hd=>rfl);(case hg=>rfl);(case hr=>first|(go_simp;done)|(go_simp;rfl));intro gb305 hg w2 hbox hb;have n0_:=Aside0.mk (below_step (by repeat (first|(with_reducible first|exact HB.out|apply below_alloc|apply pw_below_drewN|apply below_drew1)|exact HB.out)) hb);have n1_:=Aside0.mk (hbox);have n2_:=Aside0.mk ((by rw [hg];exact (below_size (by repeat (first|(with_reducible first|exact HB.out|apply below_alloc|apply pw_below_drewN|apply below_drew1)|exact HB.out))):w.heap.size ≤ gb305));have n3_:=n2_;clear HB;have HB:=n0_;have BK305:=n1_;have GW305:=n2_;have GE305:=n3_;clear n0_ n1_ n2_ n3_;clear hb hbox hg))
 go_loopg [4,5,6] k (fun kq v4 v5 v6 w'=>∃ (x4_1:ByteArray) (x5_1:ByteArray) (x6_1:Int),v4 = .string x4_1 ∧ v5 = .string x5_1 ∧ v6 = .int .i64 x6_1 ∧ Aside0 (spec_l1Whole.l0 kq a0 x4_1 x5_1 x6_1 = some (r1,r2,r3,r4,r5)) ∧ Aside0 (kq ≤ k) ∧ Aside0 (w'.heap[gb305]? = some (.cells #[.string (⟨#[]⟩:ByteArray),(.slice none 0 0),.bool false,.string (⟨#[]⟩:ByteArray)] 24 (0,0))) ∧ Aside0 (Below w.heap.size w w'))
 case atStart=>exact ⟨(a0),((⟨#[]⟩:ByteArray)),(0),(by first|rfl|(simp;done)|(simp only [i64_w,i32_w];done)|(simp only [i64_w,i32_w];rfl)|(simp [*];done)|(simp [emp_bne,emp_beq];done)),(by first|rfl|(simp;done)|(simp only [i64_w,i32_w];done)|(simp only [i64_w,i32_w];rfl)|(simp [*];done)|(simp [emp_bne,emp_beq];done)),(by first|rfl|(simp;done)|(simp only [i64_w,i32_w];done)|(simp only [i64_w,i32_w];rfl)|(simp [*];done)|(simp [emp_bne,emp_beq];done)),H',⟨Nat.le_refl _⟩,⟨by (with_reducible repeat (first|refine blk_drewN ?_ _|refine blk_drew ?_|refine blk_alloc ?_ _));exact BK305.out⟩,⟨by repeat (first|(with_reducible first|exact HB.out|apply below_alloc|apply pw_below_drewN|apply below_drew1|refine below_set ?_ GE305.out)|exact HB.out)⟩⟩
 case round =>
  clear H'
  try clear c2
  try clear p2
  obtain ⟨x4_1,x5_1,x6_1,rfl,rfl,rfl,HA,HK1,BK305,HB⟩:=hrel
  cases gk with
  | zero=>exact absurd HA.out (by simp [spec_l1Whole.l0])
  | succ k1 =>
   have H:=HA.out
   clear HA
   simp only [spec_l1Whole.l0] at H
   by_cases c3:x6_1 < (a0.size:Int)
   ·rw [if_pos c3] at H
    have c3b0:decide (x6_1 < (a0.size:Int)) = true:=decide_eq_true c3
    clear c3
    by_cases c4:0 ≤ x6_1
    ·rw [if_pos c4] at H
     have c4b0:decide (0 ≤ x6_1) = true:=decide_eq_true c4
     clear c4
     by_cases c6:(bt a0 x6_1) = 47
     ·rw [if_pos c6] at H
      have c6b0:((bt a0 x6_1) == 47) = true:=beq_iff_eq.mpr c6
      have c6b1:((bt a0 x6_1) != 47) = false:=bne_eq_false_iff_eq.mpr c6
      clear c6
      have c7b0:=eq_true (of_decide_eq_true (by first|(with_reducible assumption)|assumption):0 ≤ x6_1)
      by_cases c8:x6_1 ≤ (a0.size:Int)
      ·rw [if_pos c8] at H
       have c8b0:=eq_true c8
       have c8b1:=decide_eq_true c8
       clear c8
       have c9b0:=eq_true (of_decide_eq_true (by first|(with_reducible assumption)|assumption):0 ≤ x6_1)
       have c10b0:=eq_true (of_decide_eq_true (by first|(with_reducible assumption)|assumption):x6_1 ≤ (a0.size:Int))
       replace H:=Option.bind_eq_some_iff.mp H
       obtain ⟨t306,A110,H⟩:=H
       replace H:((spec_l1Way.f k1 t306 ([]:List ByteArray) false (⟨#[]⟩:ByteArray) (a0.extract (x6_1:Int).toNat a0.size)).bind fun bt307=>(some (bt307.1,bt307.2.1,bt307.2.2.1,bt307.2.2.2.1,bt307.2.2.2.2))) = some (r1,r2,r3,r4,r5):=H
       have A11:=Aside0.mk A110
       clear A110
       replace H:=Option.bind_eq_some_iff.mp H
       obtain ⟨⟨t307,t308,t311,t312,t313⟩,A120,H⟩:=H
       replace H:(some (t307,t308,t311,t312,t313)) = some (r1,r2,r3,r4,r5):=H
       have A12:=Aside0.mk A120
       clear A120
       simp only [Option.some.injEq,Prod.mk.injEq] at H
       obtain ⟨rfl,rfl,rfl,rfl,rfl⟩:=H
       have p5:0 ≤ (x6_1:Int):=of_decide_eq_true (by first|(with_reducible assumption)|assumption)
       have q5:x6_1 < (a0.size:Int):=of_decide_eq_true (by first|(with_reducible assumption)|assumption)
       have hx5:=bt_at a0 x6_1
       replace p5:=eq_true p5
       replace q5:=eq_true q5
       go_wp2_with (first|((with_reducible refine gate_callee (f:=39) rfl ?_);refine goesL_ (some 31) rfl rfl Tryd.func39 (by kernel_rfl) rfl #[.string (a0.extract 0 (x6_1:Int).toNat)] rfl (by (try simp only [List.map_toArray,List.map_cons,List.map_nil]);first|done|rfl|(simp only [List.length_drop,List.length_take];rfl)) ?_;(with_reducible refine (spec_l1Small.calls (a0.extract 0 (x6_1:Int).toNat) t306 _ A11.out).mono ?_);rintro e w13 ⟨rfl,hb⟩;refine ⟨_,rfl,?_⟩;have n0_:=Aside0.mk (blk_below (g:=gb305) (o:=.cells #[.string (⟨#[]⟩:ByteArray),.slice none 0 0,.bool false,.string (⟨#[]⟩:ByteArray)] 24 (0,0)) (by (with_reducible repeat (first|refine blk_drewN ?_ _|refine blk_drew ?_|refine blk_alloc ?_ _));exact BK305.out) hb);have n1_:=Aside0.mk (below_step (by repeat (first|(with_reducible first|exact HB.out|apply below_alloc|apply pw_below_drewN|apply below_drew1|refine below_set ?_ GE305.out)|exact HB.out)) hb);clear BK305;clear HB;have BK305:=n0_;have HB:=n1_;clear n0_ n1_;(try clear hb);(try clear hb2);(try clear hk);(try clear hi))|((with_reducible refine gate_callee (f:=38) rfl ?_);refine goesL_ (some 34) rfl rfl Tryd.func38 (by kernel_rfl) rfl #[.agg #[.string t306,.slice none 0 0,.bool false,.string (⟨#[]⟩:ByteArray)],.string (a0.extract (x6_1:Int).toNat a0.size)] rfl (by (try simp only [List.map_toArray,List.map_cons,List.map_nil]);first|done|rfl|(simp only [List.length_drop,List.length_take];rfl)) ?_;(refine (spec_l1Way.calls k1 t306 _ _ ([]:List ByteArray) false (⟨#[]⟩:ByteArray) (a0.extract (x6_1:Int).toNat a0.size) t307 t308 t311 t312 t313 _ ?side1 ?side2 A12.out).mono ?_);(case side1=>exact Kd.C_nil _ _);(case side2=>exact Nat.le_refl _);rintro e w14 ⟨v309,rfl,ho0,hb⟩;refine ⟨_,rfl,?_⟩;have n0_:=Aside0.mk (Kd.R_lower ho0 (below_size (by repeat (first|(with_reducible first|exact HB.out|apply below_alloc|apply pw_below_drewN|apply below_drew1|refine below_set ?_ GE305.out)|exact HB.out))));have n1_:=Aside0.mk (blk_below (g:=gb305) (o:=.cells #[.string (⟨#[]⟩:ByteArray),.slice none 0 0,.bool false,.string (⟨#[]⟩:ByteArray)] 24 (0,0)) (by (with_reducible repeat (first|refine blk_drewN ?_ _|refine blk_drew ?_|refine blk_alloc ?_ _));exact BK305.out) hb);have n2_:=Aside0.mk (below_step (by repeat (first|(with_reducible first|exact HB.out|apply below_alloc|apply pw_below_drewN|apply below_drew1|refine below_set ?_ GE305.out)|exact HB.out)) hb);clear BK305;clear HB;have HO310:=n0_;have BK305:=n1_;have HB:=n2_;clear n0_ n1_ n2_;(try clear hb);(try clear hb2);(try clear hk);(try clear hi);(try clear ho0);have hcz15_0:w14.cell? ⟨gb305,0,none⟩ = some (.string (⟨#[]⟩:ByteArray)):=(blk_cell BK305.out 0).trans rfl;have hcz15_1:w14.cell? ⟨gb305,1,none⟩ = some (.slice none 0 0):=(blk_cell BK305.out 1).trans rfl;have hcz15_2:w14.cell? ⟨gb305,2,none⟩ = some (.bool false):=(blk_cell BK305.out 2).trans rfl;have hcz15_3:w14.cell? ⟨gb305,3,none⟩ = some (.string (⟨#[]⟩:ByteArray)):=(blk_cell BK305.out 3).trans rfl;have hfz15_0:=blk_frozen BK305.out 0;have hfz15_1:=blk_frozen BK305.out 1;have hfz15_2:=blk_frozen BK305.out 2;have hfz15_3:=blk_frozen BK305.out 3;obtain ⟨Ao16,co16,eo16⟩:=Kd.R_slice HO310.out;subst eo16))
       refine bodyPost_ret (results_ct rfl _ _ gb305 24 #[.string t307,.slice Ao16 t308.length co16,.bool t311,.string t312] (0,0) _ rfl (by (with_reducible repeat (first|refine blk_drewN ?_ _|refine blk_drew ?_|refine blk_alloc ?_ _));refine blk_put (cs:=#[.string t307,.slice Ao16 t308.length co16,.bool t311,.string (⟨#[]⟩:ByteArray)]) ?_ 3 _ rfl;(with_reducible repeat (first|refine blk_drewN ?_ _|refine blk_drew ?_|refine blk_alloc ?_ _));refine blk_put (cs:=#[.string t307,.slice Ao16 t308.length co16,.bool false,.string (⟨#[]⟩:ByteArray)]) ?_ 2 _ rfl;(with_reducible repeat (first|refine blk_drewN ?_ _|refine blk_drew ?_|refine blk_alloc ?_ _));refine blk_put (cs:=#[.string t307,.slice none 0 0,.bool false,.string (⟨#[]⟩:ByteArray)]) ?_ 1 _ rfl;(with_reducible repeat (first|refine blk_drewN ?_ _|refine blk_drew ?_|refine blk_alloc ?_ _));refine blk_put (cs:=#[.string (⟨#[]⟩:ByteArray),.slice none 0 0,.bool false,.string (⟨#[]⟩:ByteArray)]) ?_ 0 _ rfl;(with_reducible repeat (first|refine blk_drewN ?_ _|refine blk_drew ?_|refine blk_alloc ?_ _));exact BK305.out) Tryd.underlying24 rfl (by kernel_rfl)) rfl ?_
       exact ⟨_,by first|rfl|(simp <;> rfl)|(simp [*] <;> rfl),by (with_reducible repeat (first|apply Kd.R_alloc|apply Kd.R_drewN|apply Kd.R_drew));exact Kd.R_mono (Kd.R_far (p:=⟨gb305,3,none⟩) (Kd.R_far (p:=⟨gb305,2,none⟩) (Kd.R_far (p:=⟨gb305,1,none⟩) (Kd.R_far (p:=⟨gb305,0,none⟩) (Kd.R_types HO310.out BK305.out (by decide)) (fun _ hk=>hk.2) (.string t307)) (fun _ hk=>hk.2) (.slice Ao16 t308.length co16)) (fun _ hk=>hk.2) (.bool t311)) (fun _ hk=>hk.2) (.string t312)) (fun _ hk=>trivial),by repeat (first|(with_reducible first|exact HB.out|apply below_alloc|apply pw_below_drewN|apply below_drew1|refine below_set ?_ GE305.out)|exact HB.out)⟩
      ·rw [if_neg c8] at H
       exact absurd H (by simp)
     ·rw [if_neg c6] at H
      have c6b0:((bt a0 x6_1) == 47) = false:=beq_eq_false_iff_ne.mpr c6
      have c6b1:((bt a0 x6_1) != 47) = true:=bne_iff_ne.mpr c6
      by_cases c18:(bt a0 x6_1) = 63
      ·rw [if_pos c18] at H
       have c18b0:((bt a0 x6_1) == 63) = true:=beq_iff_eq.mpr c18
       have c18b1:((bt a0 x6_1) != 63) = false:=bne_eq_false_iff_eq.mpr c18
       clear c18
       have c19b0:=eq_true (of_decide_eq_true (by first|(with_reducible assumption)|assumption):0 ≤ x6_1)
       by_cases c20:x6_1 ≤ (a0.size:Int)
       ·rw [if_pos c20] at H
        have c20b0:=eq_true c20
        have c20b1:=decide_eq_true c20
        clear c20
        have c21b0:=eq_true (of_decide_eq_true (by first|(with_reducible assumption)|assumption):0 ≤ x6_1)
        have c22b0:=eq_true (of_decide_eq_true (by first|(with_reducible assumption)|assumption):x6_1 ≤ (a0.size:Int))
        replace H:=Option.bind_eq_some_iff.mp H
        obtain ⟨t314,A230,H⟩:=H
        replace H:((spec_l1Way.f k1 t314 ([]:List ByteArray) false (⟨#[]⟩:ByteArray) (a0.extract (x6_1:Int).toNat a0.size)).bind fun bt315=>(some (bt315.1,bt315.2.1,bt315.2.2.1,bt315.2.2.2.1,bt315.2.2.2.2))) = some (r1,r2,r3,r4,r5):=H
        have A23:=Aside0.mk A230
        clear A230
        replace H:=Option.bind_eq_some_iff.mp H
        obtain ⟨⟨t315,t316,t319,t320,t321⟩,A240,H⟩:=H
        replace H:(some (t315,t316,t319,t320,t321)) = some (r1,r2,r3,r4,r5):=H
        have A24:=Aside0.mk A240
        clear A240
        simp only [Option.some.injEq,Prod.mk.injEq] at H
        obtain ⟨rfl,rfl,rfl,rfl,rfl⟩:=H
        have p5:0 ≤ (x6_1:Int):=of_decide_eq_true (by first|(with_reducible assumption)|assumption)
        have q5:x6_1 < (a0.size:Int):=of_decide_eq_true (by first|(with_reducible assumption)|assumption)
        have hx5:=bt_at a0 x6_1
        replace p5:=eq_true p5
        replace q5:=eq_true q5
        have p17:0 ≤ (x6_1:Int):=of_decide_eq_true (by first|(with_reducible assumption)|assumption)
        have q17:x6_1 < (a0.size:Int):=of_decide_eq_true (by first|(with_reducible assumption)|assumption)
        have hx17:=bt_at a0 x6_1
        replace p17:=eq_true p17
        replace q17:=eq_true q17
        go_wp2_with (first|((with_reducible refine gate_callee (f:=39) rfl ?_);refine goesL_ (some 31) rfl rfl Tryd.func39 (by kernel_rfl) rfl #[.string (a0.extract 0 (x6_1:Int).toNat)] rfl (by (try simp only [List.map_toArray,List.map_cons,List.map_nil]);first|done|rfl|(simp only [List.length_drop,List.length_take];rfl)) ?_;(with_reducible refine (spec_l1Small.calls (a0.extract 0 (x6_1:Int).toNat) t314 _ A23.out).mono ?_);rintro e w25 ⟨rfl,hb⟩;refine ⟨_,rfl,?_⟩;have n0_:=Aside0.mk (blk_below (g:=gb305) (o:=.cells #[.string (⟨#[]⟩:ByteArray),.slice none 0 0,.bool false,.string (⟨#[]⟩:ByteArray)] 24 (0,0)) (by (with_reducible repeat (first|refine blk_drewN ?_ _|refine blk_drew ?_|refine blk_alloc ?_ _));exact BK305.out) hb);have n1_:=Aside0.mk (below_step (by repeat (first|(with_reducible first|exact HB.out|apply below_alloc|apply pw_below_drewN|apply below_drew1|refine below_set ?_ GE305.out)|exact HB.out)) hb);clear BK305;clear HB;have BK305:=n0_;have HB:=n1_;clear n0_ n1_;(try clear hb);(try clear hb2);(try clear hk);(try clear hi))|((with_reducible refine gate_callee (f:=38) rfl ?_);refine goesL_ (some 34) rfl rfl Tryd.func38 (by kernel_rfl) rfl #[.agg #[.string t314,.slice none 0 0,.bool false,.string (⟨#[]⟩:ByteArray)],.string (a0.extract (x6_1:Int).toNat a0.size)] rfl (by (try simp only [List.map_toArray,List.map_cons,List.map_nil]);first|done|rfl|(simp only [List.length_drop,List.length_take];rfl)) ?_;(refine (spec_l1Way.calls k1 t314 _ _ ([]:List ByteArray) false (⟨#[]⟩:ByteArray) (a0.extract (x6_1:Int).toNat a0.size) t315 t316 t319 t320 t321 _ ?side1 ?side2 A24.out).mono ?_);(case side1=>exact Kd.C_nil _ _);(case side2=>exact Nat.le_refl _);rintro e w26 ⟨v317,rfl,ho0,hb⟩;refine ⟨_,rfl,?_⟩;have n0_:=Aside0.mk (Kd.R_lower ho0 (below_size (by repeat (first|(with_reducible first|exact HB.out|apply below_alloc|apply pw_below_drewN|apply below_drew1|refine below_set ?_ GE305.out)|exact HB.out))));have n1_:=Aside0.mk (blk_below (g:=gb305) (o:=.cells #[.string (⟨#[]⟩:ByteArray),.slice none 0 0,.bool false,.string (⟨#[]⟩:ByteArray)] 24 (0,0)) (by (with_reducible repeat (first|refine blk_drewN ?_ _|refine blk_drew ?_|refine blk_alloc ?_ _));exact BK305.out) hb);have n2_:=Aside0.mk (below_step (by repeat (first|(with_reducible first|exact HB.out|apply below_alloc|apply pw_below_drewN|apply below_drew1|refine below_set ?_ GE305.out)|exact HB.out)) hb);clear BK305;clear HB;have HO318:=n0_;have BK305:=n1_;have HB:=n2_;clear n0_ n1_ n2_;(try clear hb);(try clear hb2);(try clear hk);(try clear hi);(try clear ho0);have hcz27_0:w26.cell? ⟨gb305,0,none⟩ = some (.string (⟨#[]⟩:ByteArray)):=(blk_cell BK305.out 0).trans rfl;have hcz27_1:w26.cell? ⟨gb305,1,none⟩ = some (.slice none 0 0):=(blk_cell BK305.out 1).trans rfl;have hcz27_2:w26.cell? ⟨gb305,2,none⟩ = some (.bool false):=(blk_cell BK305.out 2).trans rfl;have hcz27_3:w26.cell? ⟨gb305,3,none⟩ = some (.string (⟨#[]⟩:ByteArray)):=(blk_cell BK305.out 3).trans rfl;have hfz27_0:=blk_frozen BK305.out 0;have hfz27_1:=blk_frozen BK305.out 1;have hfz27_2:=blk_frozen BK305.out 2;have hfz27_3:=blk_frozen BK305.out 3;obtain ⟨Ao28,co28,eo28⟩:=Kd.R_slice HO318.out;subst eo28))
        refine bodyPost_ret (results_ct rfl _ _ gb305 24 #[.string t315,.slice Ao28 t316.length co28,.bool t319,.string t320] (0,0) _ rfl (by (with_reducible repeat (first|refine blk_drewN ?_ _|refine blk_drew ?_|refine blk_alloc ?_ _));refine blk_put (cs:=#[.string t315,.slice Ao28 t316.length co28,.bool t319,.string (⟨#[]⟩:ByteArray)]) ?_ 3 _ rfl;(with_reducible repeat (first|refine blk_drewN ?_ _|refine blk_drew ?_|refine blk_alloc ?_ _));refine blk_put (cs:=#[.string t315,.slice Ao28 t316.length co28,.bool false,.string (⟨#[]⟩:ByteArray)]) ?_ 2 _ rfl;(with_reducible repeat (first|refine blk_drewN ?_ _|refine blk_drew ?_|refine blk_alloc ?_ _));refine blk_put (cs:=#[.string t315,.slice none 0 0,.bool false,.string (⟨#[]⟩:ByteArray)]) ?_ 1 _ rfl;(with_reducible repeat (first|refine blk_drewN ?_ _|refine blk_drew ?_|refine blk_alloc ?_ _));refine blk_put (cs:=#[.string (⟨#[]⟩:ByteArray),.slice none 0 0,.bool false,.string (⟨#[]⟩:ByteArray)]) ?_ 0 _ rfl;(with_reducible repeat (first|refine blk_drewN ?_ _|refine blk_drew ?_|refine blk_alloc ?_ _));exact BK305.out) Tryd.underlying24 rfl (by kernel_rfl)) rfl ?_
        exact ⟨_,by first|rfl|(simp <;> rfl)|(simp [*] <;> rfl),by (with_reducible repeat (first|apply Kd.R_alloc|apply Kd.R_drewN|apply Kd.R_drew));exact Kd.R_mono (Kd.R_far (p:=⟨gb305,3,none⟩) (Kd.R_far (p:=⟨gb305,2,none⟩) (Kd.R_far (p:=⟨gb305,1,none⟩) (Kd.R_far (p:=⟨gb305,0,none⟩) (Kd.R_types HO318.out BK305.out (by decide)) (fun _ hk=>hk.2) (.string t315)) (fun _ hk=>hk.2) (.slice Ao28 t316.length co28)) (fun _ hk=>hk.2) (.bool t319)) (fun _ hk=>hk.2) (.string t320)) (fun _ hk=>trivial),by repeat (first|(with_reducible first|exact HB.out|apply below_alloc|apply pw_below_drewN|apply below_drew1|refine below_set ?_ GE305.out)|exact HB.out)⟩
       ·rw [if_neg c20] at H
        exact absurd H (by simp)
      ·rw [if_neg c18] at H
       have c18b0:((bt a0 x6_1) == 63) = false:=beq_eq_false_iff_ne.mpr c18
       have c18b1:((bt a0 x6_1) != 63) = true:=bne_iff_ne.mpr c18
       have H':=Aside0.mk H
       clear H
       have p5:0 ≤ (x6_1:Int):=of_decide_eq_true (by first|(with_reducible assumption)|assumption)
       have q5:x6_1 < (a0.size:Int):=of_decide_eq_true (by first|(with_reducible assumption)|assumption)
       have hx5:=bt_at a0 x6_1
       replace p5:=eq_true p5
       replace q5:=eq_true q5
       have p17:0 ≤ (x6_1:Int):=of_decide_eq_true (by first|(with_reducible assumption)|assumption)
       have q17:x6_1 < (a0.size:Int):=of_decide_eq_true (by first|(with_reducible assumption)|assumption)
       have hx17:=bt_at a0 x6_1
       replace p17:=eq_true p17
       replace q17:=eq_true q17
       go_wp2
       go_roundg k1
       case measure=>have:=HK1.out;omega
       case rel=>exact ⟨(x4_1),(x5_1),(wrap64 (x6_1 + 1)),(by first|rfl|(simp;done)|(simp only [i64_w,i32_w];done)|(simp only [i64_w,i32_w];rfl)|(simp [*];done)|(simp [emp_bne,emp_beq];done)),(by first|rfl|(simp;done)|(simp only [i64_w,i32_w];done)|(simp only [i64_w,i32_w];rfl)|(simp [*];done)|(simp [emp_bne,emp_beq];done)),(by first|rfl|(simp;done)|(simp only [i64_w,i32_w];done)|(simp only [i64_w,i32_w];rfl)|(simp [*];done)|(simp [emp_bne,emp_beq];done)),H',⟨by have:=HK1.out;omega⟩,⟨by (with_reducible repeat (first|refine blk_drewN ?_ _|refine blk_drew ?_|refine blk_alloc ?_ _));exact BK305.out⟩,⟨by repeat (first|(with_reducible first|exact HB.out|apply below_alloc|apply pw_below_drewN|apply below_drew1|refine below_set ?_ GE305.out)|exact HB.out)⟩⟩
    ·rw [if_neg c4] at H
     exact absurd H (by simp)
   ·rw [if_neg c3] at H
    have c3b0:decide (x6_1 < (a0.size:Int)) = false:=decide_eq_false c3
    clear c3
    replace H:=Option.bind_eq_some_iff.mp H
    obtain ⟨t322,A290,H⟩:=H
    replace H:((spec_l1Way.f k1 t322 ([]:List ByteArray) false (⟨#[]⟩:ByteArray) x5_1).bind fun bt323=>(some (bt323.1,bt323.2.1,bt323.2.2.1,bt323.2.2.2.1,bt323.2.2.2.2))) = some (r1,r2,r3,r4,r5):=H
    have A29:=Aside0.mk A290
    clear A290
    replace H:=Option.bind_eq_some_iff.mp H
    obtain ⟨⟨t323,t324,t327,t328,t329⟩,A300,H⟩:=H
    replace H:(some (t323,t324,t327,t328,t329)) = some (r1,r2,r3,r4,r5):=H
    have A30:=Aside0.mk A300
    clear A300
    simp only [Option.some.injEq,Prod.mk.injEq] at H
    obtain ⟨rfl,rfl,rfl,rfl,rfl⟩:=H
    go_wp2_with (first|((with_reducible refine gate_callee (f:=39) rfl ?_);refine goesL_ (some 31) rfl rfl Tryd.func39 (by kernel_rfl) rfl #[.string x4_1] rfl (by (try simp only [List.map_toArray,List.map_cons,List.map_nil]);first|done|rfl|(simp only [List.length_drop,List.length_take];rfl)) ?_;(with_reducible refine (spec_l1Small.calls x4_1 t322 _ A29.out).mono ?_);rintro e w31 ⟨rfl,hb⟩;refine ⟨_,rfl,?_⟩;have n0_:=Aside0.mk (blk_below (g:=gb305) (o:=.cells #[.string (⟨#[]⟩:ByteArray),.slice none 0 0,.bool false,.string (⟨#[]⟩:ByteArray)] 24 (0,0)) (by (with_reducible repeat (first|refine blk_drewN ?_ _|refine blk_drew ?_|refine blk_alloc ?_ _));exact BK305.out) hb);have n1_:=Aside0.mk (below_step (by repeat (first|(with_reducible first|exact HB.out|apply below_alloc|apply pw_below_drewN|apply below_drew1|refine below_set ?_ GE305.out)|exact HB.out)) hb);clear BK305;clear HB;have BK305:=n0_;have HB:=n1_;clear n0_ n1_;(try clear hb);(try clear hb2);(try clear hk);(try clear hi))|((with_reducible refine gate_callee (f:=38) rfl ?_);refine goesL_ (some 34) rfl rfl Tryd.func38 (by kernel_rfl) rfl #[.agg #[.string t322,.slice none 0 0,.bool false,.string (⟨#[]⟩:ByteArray)],.string x5_1] rfl (by (try simp only [List.map_toArray,List.map_cons,List.map_nil]);first|done|rfl|(simp only [List.length_drop,List.length_take];rfl)) ?_;(refine (spec_l1Way.calls k1 t322 _ _ ([]:List ByteArray) false (⟨#[]⟩:ByteArray) x5_1 t323 t324 t327 t328 t329 _ ?side1 ?side2 A30.out).mono ?_);(case side1=>exact Kd.C_nil _ _);(case side2=>exact Nat.le_refl _);rintro e w32 ⟨v325,rfl,ho0,hb⟩;refine ⟨_,rfl,?_⟩;have n0_:=Aside0.mk (Kd.R_lower ho0 (below_size (by repeat (first|(with_reducible first|exact HB.out|apply below_alloc|apply pw_below_drewN|apply below_drew1|refine below_set ?_ GE305.out)|exact HB.out))));have n1_:=Aside0.mk (blk_below (g:=gb305) (o:=.cells #[.string (⟨#[]⟩:ByteArray),.slice none 0 0,.bool false,.string (⟨#[]⟩:ByteArray)] 24 (0,0)) (by (with_reducible repeat (first|refine blk_drewN ?_ _|refine blk_drew ?_|refine blk_alloc ?_ _));exact BK305.out) hb);have n2_:=Aside0.mk (below_step (by repeat (first|(with_reducible first|exact HB.out|apply below_alloc|apply pw_below_drewN|apply below_drew1|refine below_set ?_ GE305.out)|exact HB.out)) hb);clear BK305;clear HB;have HO326:=n0_;have BK305:=n1_;have HB:=n2_;clear n0_ n1_ n2_;(try clear hb);(try clear hb2);(try clear hk);(try clear hi);(try clear ho0);have hcz33_0:w32.cell? ⟨gb305,0,none⟩ = some (.string (⟨#[]⟩:ByteArray)):=(blk_cell BK305.out 0).trans rfl;have hcz33_1:w32.cell? ⟨gb305,1,none⟩ = some (.slice none 0 0):=(blk_cell BK305.out 1).trans rfl;have hcz33_2:w32.cell? ⟨gb305,2,none⟩ = some (.bool false):=(blk_cell BK305.out 2).trans rfl;have hcz33_3:w32.cell? ⟨gb305,3,none⟩ = some (.string (⟨#[]⟩:ByteArray)):=(blk_cell BK305.out 3).trans rfl;have hfz33_0:=blk_frozen BK305.out 0;have hfz33_1:=blk_frozen BK305.out 1;have hfz33_2:=blk_frozen BK305.out 2;have hfz33_3:=blk_frozen BK305.out 3;obtain ⟨Ao34,co34,eo34⟩:=Kd.R_slice HO326.out;subst eo34))
    refine bodyPost_ret (results_ct rfl _ _ gb305 24 #[.string t323,.slice Ao34 t324.length co34,.bool t327,.string t328] (0,0) _ rfl (by (with_reducible repeat (first|refine blk_drewN ?_ _|refine blk_drew ?_|refine blk_alloc ?_ _));refine blk_put (cs:=#[.string t323,.slice Ao34 t324.length co34,.bool t327,.string (⟨#[]⟩:ByteArray)]) ?_ 3 _ rfl;(with_reducible repeat (first|refine blk_drewN ?_ _|refine blk_drew ?_|refine blk_alloc ?_ _));refine blk_put (cs:=#[.string t323,.slice Ao34 t324.length co34,.bool false,.string (⟨#[]⟩:ByteArray)]) ?_ 2 _ rfl;(with_reducible repeat (first|refine blk_drewN ?_ _|refine blk_drew ?_|refine blk_alloc ?_ _));refine blk_put (cs:=#[.string t323,.slice none 0 0,.bool false,.string (⟨#[]⟩:ByteArray)]) ?_ 1 _ rfl;(with_reducible repeat (first|refine blk_drewN ?_ _|refine blk_drew ?_|refine blk_alloc ?_ _));refine blk_put (cs:=#[.string (⟨#[]⟩:ByteArray),.slice none 0 0,.bool false,.string (⟨#[]⟩:ByteArray)]) ?_ 0 _ rfl;(with_reducible repeat (first|refine blk_drewN ?_ _|refine blk_drew ?_|refine blk_alloc ?_ _));exact BK305.out) Tryd.underlying24 rfl (by kernel_rfl)) rfl ?_
    exact ⟨_,by first|rfl|(simp <;> rfl)|(simp [*] <;> rfl),by (with_reducible repeat (first|apply Kd.R_alloc|apply Kd.R_drewN|apply Kd.R_drew));exact Kd.R_mono (Kd.R_far (p:=⟨gb305,3,none⟩) (Kd.R_far (p:=⟨gb305,2,none⟩) (Kd.R_far (p:=⟨gb305,1,none⟩) (Kd.R_far (p:=⟨gb305,0,none⟩) (Kd.R_types HO326.out BK305.out (by decide)) (fun _ hk=>hk.2) (.string t323)) (fun _ hk=>hk.2) (.slice Ao34 t324.length co34)) (fun _ hk=>hk.2) (.bool t327)) (fun _ hk=>hk.2) (.string t328)) (fun _ hk=>trivial),by repeat (first|(with_reducible first|exact HB.out|apply below_alloc|apply pw_below_drewN|apply below_drew1|refine below_set ?_ GE305.out)|exact HB.out)⟩

/-! ### spec_AddrRead: function 8 -/
def spec_AddrRead.f (k:Nat) (a0:ByteArray):Option (ByteArray × List ByteArray × Bool × ByteArray × Bool):=(spec_l1Cut.f k a0 35).bind fun bt331=>(if (a0.size:Int) > 60 then (some ((⟨#[]⟩:ByteArray),([]:List ByteArray),false,(⟨#[]⟩:ByteArray),false)) else (if (bt331.1.size:Int) < 2 then (some ((⟨#[]⟩:ByteArray),([]:List ByteArray),false,(⟨#[]⟩:ByteArray),false)) else (if 0 ≤ 2 then (if 2 ≤ (bt331.1.size:Int) then (if (bt331.1.extract 0 2).toList = ([47,47]:List UInt8) then ((spec_l1Whole.f k (bt331.1.extract 2 bt331.1.size)).bind fun bt334=>(some (bt334.1,bt334.2.1,bt334.2.2.1,bt334.2.2.2.1,bt334.2.2.2.2))) else (some ((⟨#[]⟩:ByteArray),([]:List ByteArray),false,(⟨#[]⟩:ByteArray),false))) else (none)) else (none))))
theorem spec_AddrRead.mono:∀ a0 k,LeO (spec_AddrRead.f k a0) (spec_AddrRead.f (k + 1) a0):=by
 intro a0 k
 unfold spec_AddrRead.f
 repeat' first
   | (with_reducible exact spec_l1Cut.mono _ _ _)
   | (with_reducible exact spec_l1Whole.mono _ _)
   | (with_reducible exact LeO.refl _)
   | (with_reducible exact LeO.none _)
   | (with_reducible refine LeO.ite ?_ ?_)
   | (with_reducible refine LeO.bind ?_ (fun _=>?_))
   | exact spec_l1Cut.mono _ _ _
   | exact spec_l1Whole.mono _ _
   | exact LeO.none _
   | refine LeO.ite ?_ ?_
   | refine LeO.bind ?_ (fun _=>?_)
theorem spec_AddrRead.calls (k:Nat) (a0:ByteArray) (r1:ByteArray) (r2:List ByteArray) (r3:Bool) (r4:ByteArray) (r5:Bool) (w:World) (h:spec_AddrRead.f k a0 = some (r1,r2,r3,r4,r5)) :
  Calls Tryd.prog 8 #[.string a0] w fun e w'=>∃ v1_:Value,e = .returned (.tuple #[.agg #[.string r1,v1_,.bool r3,.string r4],.bool r5]) ∧ Kd.R Kd.string 9 w' w.heap.size (fun _=>True) v1_ r2 ∧ Below w.heap.size w w':=by
 have hu24:=Tryd.underlying24
 have HB:=Aside0.mk (Below.refl w.heap.size w)
 have H:((spec_l1Cut.f k a0 35).bind fun bt331=>(if (a0.size:Int) > 60 then (some ((⟨#[]⟩:ByteArray),([]:List ByteArray),false,(⟨#[]⟩:ByteArray),false)) else (if (bt331.1.size:Int) < 2 then (some ((⟨#[]⟩:ByteArray),([]:List ByteArray),false,(⟨#[]⟩:ByteArray),false)) else (if 0 ≤ 2 then (if 2 ≤ (bt331.1.size:Int) then (if (bt331.1.extract 0 2).toList = ([47,47]:List UInt8) then ((spec_l1Whole.f k (bt331.1.extract 2 bt331.1.size)).bind fun bt334=>(some (bt334.1,bt334.2.1,bt334.2.2.1,bt334.2.2.2.1,bt334.2.2.2.2))) else (some ((⟨#[]⟩:ByteArray),([]:List ByteArray),false,(⟨#[]⟩:ByteArray),false))) else (none)) else (none))))) = some (r1,r2,r3,r4,r5):=h
 clear h
 replace H:=Option.bind_eq_some_iff.mp H
 obtain ⟨⟨t331,t332,t333⟩,A20,H⟩:=H
 replace H:(if (a0.size:Int) > 60 then (some ((⟨#[]⟩:ByteArray),([]:List ByteArray),false,(⟨#[]⟩:ByteArray),false)) else (if (t331.size:Int) < 2 then (some ((⟨#[]⟩:ByteArray),([]:List ByteArray),false,(⟨#[]⟩:ByteArray),false)) else (if 0 ≤ 2 then (if 2 ≤ (t331.size:Int) then (if (t331.extract 0 2).toList = ([47,47]:List UInt8) then ((spec_l1Whole.f k (t331.extract 2 t331.size)).bind fun bt334=>(some (bt334.1,bt334.2.1,bt334.2.2.1,bt334.2.2.2.1,bt334.2.2.2.2))) else (some ((⟨#[]⟩:ByteArray),([]:List ByteArray),false,(⟨#[]⟩:ByteArray),false))) else (none)) else (none)))) = some (r1,r2,r3,r4,r5):=H
 have A2:=Aside0.mk A20
 clear A20
 by_cases c3:(a0.size:Int) > 60
 ·rw [if_pos c3] at H
  have c3b0:decide (60 < (a0.size:Int)) = true:=decide_eq_true c3
  have c3b1:decide (60 < a0.size) = true:=decide_eq_true (by omega)
  clear c3
  simp only [Option.some.injEq,Prod.mk.injEq] at H
  obtain ⟨rfl,rfl,rfl,rfl,rfl⟩:=H
  go_enter Tryd.func8,Tryd.ntmps8
  go_wp2_with (first|((with_reducible refine gate_dst (N:=2) rfl ?_);(try (refine gate_guard (by rfl) ?_;dsimp only));refine box_event ?hg (N:=2) ?hd (cs:=#[.string (⟨#[]⟩:ByteArray),.slice none 0 0,.bool false,.string (⟨#[]⟩:ByteArray)]) (t:=24) ?hr ?_;(case hd=>rfl);(case hg=>rfl);(case hr=>first|(go_simp;done)|(go_simp;rfl));intro gb330 hg w4 hbox hb;have n0_:=Aside0.mk (below_step (by repeat (first|(with_reducible first|exact HB.out|apply below_alloc|apply pw_below_drewN|apply below_drew1)|exact HB.out)) hb);have n1_:=Aside0.mk (hbox);have n2_:=Aside0.mk ((by rw [hg];exact (below_size (by repeat (first|(with_reducible first|exact HB.out|apply below_alloc|apply pw_below_drewN|apply below_drew1)|exact HB.out))):w.heap.size ≤ gb330));have n3_:=n2_;clear HB;have HB:=n0_;have BK330:=n1_;have GW330:=n2_;have GE330:=n3_;clear n0_ n1_ n2_ n3_;clear hb hbox hg)|((with_reducible refine gate_callee (f:=19) rfl ?_);refine goesL_ (some 9) rfl rfl Tryd.func19 (by kernel_rfl) rfl #[.string a0,.int .u8 35] rfl (by (try simp only [List.map_toArray,List.map_cons,List.map_nil]);first|done|rfl|(simp only [List.length_drop,List.length_take];rfl)) ?_;(with_reducible refine (spec_l1Cut.calls k a0 35 t331 t332 t333 _ A2.out).mono ?_);rintro e w' ⟨rfl,⟨nd,rfl⟩⟩;refine ⟨_,rfl,?_⟩;(try (rw [drewN_self w4];generalize hq_:World.drewN w4 _ = w4;have n0_:Aside0 (w4.heap[gb330]? = some (.cells #[.string (⟨#[]⟩:ByteArray),.slice none 0 0,.bool false,.string (⟨#[]⟩:ByteArray)] 24 (0,0))):=⟨by rw [← hq_];exact (by (with_reducible repeat (first|refine blk_drewN ?_ _|refine blk_drew ?_|refine blk_alloc ?_ _));exact BK330.out)⟩;have n1_:Aside0 (Below w.heap.size w w4):=⟨by rw [← hq_];exact (by repeat (first|(with_reducible first|exact HB.out|apply below_alloc|apply pw_below_drewN|apply below_drew1|refine below_set ?_ GE330.out)|exact HB.out))⟩;clear BK330 HB hq_;have BK330:=n0_;have HB:=n1_;clear n0_ n1_));have hcz5_0:w4.cell? ⟨gb330,0,none⟩ = some (.string (⟨#[]⟩:ByteArray)):=(blk_cell BK330.out 0).trans rfl;have hcz5_1:w4.cell? ⟨gb330,1,none⟩ = some (.slice none 0 0):=(blk_cell BK330.out 1).trans rfl;have hcz5_2:w4.cell? ⟨gb330,2,none⟩ = some (.bool false):=(blk_cell BK330.out 2).trans rfl;have hcz5_3:w4.cell? ⟨gb330,3,none⟩ = some (.string (⟨#[]⟩:ByteArray)):=(blk_cell BK330.out 3).trans rfl;have hfz5_0:=blk_frozen BK330.out 0;have hfz5_1:=blk_frozen BK330.out 1;have hfz5_2:=blk_frozen BK330.out 2;have hfz5_3:=blk_frozen BK330.out 3))
  refine bodyPost_ret (results_ct rfl _ _ gb330 24 #[.string (⟨#[]⟩:ByteArray),.slice none 0 0,.bool false,.string (⟨#[]⟩:ByteArray)] (0,0) _ rfl (by (with_reducible repeat (first|refine blk_drewN ?_ _|refine blk_drew ?_|refine blk_alloc ?_ _));refine blk_put (cs:=#[.string (⟨#[]⟩:ByteArray),.slice none 0 0,.bool false,.string (⟨#[]⟩:ByteArray)]) ?_ 3 _ rfl;(with_reducible repeat (first|refine blk_drewN ?_ _|refine blk_drew ?_|refine blk_alloc ?_ _));refine blk_put (cs:=#[.string (⟨#[]⟩:ByteArray),.slice none 0 0,.bool false,.string (⟨#[]⟩:ByteArray)]) ?_ 2 _ rfl;(with_reducible repeat (first|refine blk_drewN ?_ _|refine blk_drew ?_|refine blk_alloc ?_ _));refine blk_put (cs:=#[.string (⟨#[]⟩:ByteArray),.slice none 0 0,.bool false,.string (⟨#[]⟩:ByteArray)]) ?_ 1 _ rfl;(with_reducible repeat (first|refine blk_drewN ?_ _|refine blk_drew ?_|refine blk_alloc ?_ _));refine blk_put (cs:=#[.string (⟨#[]⟩:ByteArray),.slice none 0 0,.bool false,.string (⟨#[]⟩:ByteArray)]) ?_ 0 _ rfl;(with_reducible repeat (first|refine blk_drewN ?_ _|refine blk_drew ?_|refine blk_alloc ?_ _));exact BK330.out) Tryd.underlying24 rfl (by kernel_rfl)) rfl ?_
  exact ⟨_,by first|rfl|(simp <;> rfl)|(simp [*] <;> rfl),by first|exact Kd.R_nil _ _ _ _ _|exact Kd.N_nil _ _ _ _ _|exact Kd.V_nil _ _ _ _ _|exact Kd.Q_nil _ _ _ _ _|exact Kd.S_nil _ _ _ _ _,by repeat (first|(with_reducible first|exact HB.out|apply below_alloc|apply pw_below_drewN|apply below_drew1|refine below_set ?_ GE330.out)|exact HB.out)⟩
 ·rw [if_neg c3] at H
  have c3b0:decide (60 < (a0.size:Int)) = false:=decide_eq_false c3
  have c3b1:decide (60 < a0.size) = false:=decide_eq_false (by omega)
  clear c3
  by_cases c6:(t331.size:Int) < 2
  ·rw [if_pos c6] at H
   have c6b0:decide ((t331.size:Int) < 2) = true:=decide_eq_true c6
   have c6b1:decide (t331.size < 2) = true:=decide_eq_true (by omega)
   clear c6
   simp only [Option.some.injEq,Prod.mk.injEq] at H
   obtain ⟨rfl,rfl,rfl,rfl,rfl⟩:=H
   go_enter Tryd.func8,Tryd.ntmps8
   go_wp2_with (first|((with_reducible refine gate_dst (N:=2) rfl ?_);(try (refine gate_guard (by rfl) ?_;dsimp only));refine box_event ?hg (N:=2) ?hd (cs:=#[.string (⟨#[]⟩:ByteArray),.slice none 0 0,.bool false,.string (⟨#[]⟩:ByteArray)]) (t:=24) ?hr ?_;(case hd=>rfl);(case hg=>rfl);(case hr=>first|(go_simp;done)|(go_simp;rfl));intro gb330 hg w7 hbox hb;have n0_:=Aside0.mk (below_step (by repeat (first|(with_reducible first|exact HB.out|apply below_alloc|apply pw_below_drewN|apply below_drew1)|exact HB.out)) hb);have n1_:=Aside0.mk (hbox);have n2_:=Aside0.mk ((by rw [hg];exact (below_size (by repeat (first|(with_reducible first|exact HB.out|apply below_alloc|apply pw_below_drewN|apply below_drew1)|exact HB.out))):w.heap.size ≤ gb330));have n3_:=n2_;clear HB;have HB:=n0_;have BK330:=n1_;have GW330:=n2_;have GE330:=n3_;clear n0_ n1_ n2_ n3_;clear hb hbox hg)|((with_reducible refine gate_callee (f:=19) rfl ?_);refine goesL_ (some 9) rfl rfl Tryd.func19 (by kernel_rfl) rfl #[.string a0,.int .u8 35] rfl (by (try simp only [List.map_toArray,List.map_cons,List.map_nil]);first|done|rfl|(simp only [List.length_drop,List.length_take];rfl)) ?_;(with_reducible refine (spec_l1Cut.calls k a0 35 t331 t332 t333 _ A2.out).mono ?_);rintro e w' ⟨rfl,⟨nd,rfl⟩⟩;refine ⟨_,rfl,?_⟩;(try (rw [drewN_self w7];generalize hq_:World.drewN w7 _ = w7;have n0_:Aside0 (w7.heap[gb330]? = some (.cells #[.string (⟨#[]⟩:ByteArray),.slice none 0 0,.bool false,.string (⟨#[]⟩:ByteArray)] 24 (0,0))):=⟨by rw [← hq_];exact (by (with_reducible repeat (first|refine blk_drewN ?_ _|refine blk_drew ?_|refine blk_alloc ?_ _));exact BK330.out)⟩;have n1_:Aside0 (Below w.heap.size w w7):=⟨by rw [← hq_];exact (by repeat (first|(with_reducible first|exact HB.out|apply below_alloc|apply pw_below_drewN|apply below_drew1|refine below_set ?_ GE330.out)|exact HB.out))⟩;clear BK330 HB hq_;have BK330:=n0_;have HB:=n1_;clear n0_ n1_));have hcz8_0:w7.cell? ⟨gb330,0,none⟩ = some (.string (⟨#[]⟩:ByteArray)):=(blk_cell BK330.out 0).trans rfl;have hcz8_1:w7.cell? ⟨gb330,1,none⟩ = some (.slice none 0 0):=(blk_cell BK330.out 1).trans rfl;have hcz8_2:w7.cell? ⟨gb330,2,none⟩ = some (.bool false):=(blk_cell BK330.out 2).trans rfl;have hcz8_3:w7.cell? ⟨gb330,3,none⟩ = some (.string (⟨#[]⟩:ByteArray)):=(blk_cell BK330.out 3).trans rfl;have hfz8_0:=blk_frozen BK330.out 0;have hfz8_1:=blk_frozen BK330.out 1;have hfz8_2:=blk_frozen BK330.out 2;have hfz8_3:=blk_frozen BK330.out 3))
   refine bodyPost_ret (results_ct rfl _ _ gb330 24 #[.string (⟨#[]⟩:ByteArray),.slice none 0 0,.bool false,.string (⟨#[]⟩:ByteArray)] (0,0) _ rfl (by (with_reducible repeat (first|refine blk_drewN ?_ _|refine blk_drew ?_|refine blk_alloc ?_ _));refine blk_put (cs:=#[.string (⟨#[]⟩:ByteArray),.slice none 0 0,.bool false,.string (⟨#[]⟩:ByteArray)]) ?_ 3 _ rfl;(with_reducible repeat (first|refine blk_drewN ?_ _|refine blk_drew ?_|refine blk_alloc ?_ _));refine blk_put (cs:=#[.string (⟨#[]⟩:ByteArray),.slice none 0 0,.bool false,.string (⟨#[]⟩:ByteArray)]) ?_ 2 _ rfl;(with_reducible repeat (first|refine blk_drewN ?_ _|refine blk_drew ?_|refine blk_alloc ?_ _));refine blk_put (cs:=#[.string (⟨#[]⟩:ByteArray),.slice none 0 0,.bool false,.string (⟨#[]⟩:ByteArray)]) ?_ 1 _ rfl;(with_reducible repeat (first|refine blk_drewN ?_ _|refine blk_drew ?_|refine blk_alloc ?_ _));refine blk_put (cs:=#[.string (⟨#[]⟩:ByteArray),.slice none 0 0,.bool false,.string (⟨#[]⟩:ByteArray)]) ?_ 0 _ rfl;(with_reducible repeat (first|refine blk_drewN ?_ _|refine blk_drew ?_|refine blk_alloc ?_ _));exact BK330.out) Tryd.underlying24 rfl (by kernel_rfl)) rfl ?_
   exact ⟨_,by first|rfl|(simp <;> rfl)|(simp [*] <;> rfl),by first|exact Kd.R_nil _ _ _ _ _|exact Kd.N_nil _ _ _ _ _|exact Kd.V_nil _ _ _ _ _|exact Kd.Q_nil _ _ _ _ _|exact Kd.S_nil _ _ _ _ _,by repeat (first|(with_reducible first|exact HB.out|apply below_alloc|apply pw_below_drewN|apply below_drew1|refine below_set ?_ GE330.out)|exact HB.out)⟩
  ·rw [if_neg c6] at H
   have c6b0:decide ((t331.size:Int) < 2) = false:=decide_eq_false c6
   have c6b1:decide (t331.size < 2) = false:=decide_eq_false (by omega)
   clear c6
   by_cases c9:0 ≤ 2
   ·rw [if_pos c9] at H
    have c9b0:=eq_true c9
    have c9b1:=decide_eq_true c9
    clear c9
    by_cases c10:2 ≤ (t331.size:Int)
    ·rw [if_pos c10] at H
     have c10b0:=eq_true c10
     have c10b1:=decide_eq_true c10
     clear c10
     by_cases c11:(t331.extract 0 2).toList = ([47,47]:List UInt8)
     ·rw [if_pos c11] at H
      have c11b0:((t331.extract 0 2).toList == ([47,47]:List UInt8)) = true:=beq_iff_eq.mpr c11
      have c11b1:((t331.extract 0 2).toList != ([47,47]:List UInt8)) = false:=bne_eq_false_iff_eq.mpr c11
      clear c11
      have c12b0:=eq_true (of_decide_eq_true (by first|(with_reducible assumption)|assumption):2 ≤ (t331.size:Int))
      replace H:=Option.bind_eq_some_iff.mp H
      obtain ⟨⟨t334,t335,t338,t339,t340⟩,A130,H⟩:=H
      replace H:(some (t334,t335,t338,t339,t340)) = some (r1,r2,r3,r4,r5):=H
      have A13:=Aside0.mk A130
      clear A130
      simp only [Option.some.injEq,Prod.mk.injEq] at H
      obtain ⟨rfl,rfl,rfl,rfl,rfl⟩:=H
      go_enter Tryd.func8,Tryd.ntmps8
      go_wp2_with (first|((with_reducible refine gate_dst (N:=2) rfl ?_);(try (refine gate_guard (by rfl) ?_;dsimp only));refine box_event ?hg (N:=2) ?hd (cs:=#[.string (⟨#[]⟩:ByteArray),.slice none 0 0,.bool false,.string (⟨#[]⟩:ByteArray)]) (t:=24) ?hr ?_;(case hd=>rfl);(case hg=>rfl);(case hr=>first|(go_simp;done)|(go_simp;rfl));intro gb330 hg w14 hbox hb;have n0_:=Aside0.mk (below_step (by repeat (first|(with_reducible first|exact HB.out|apply below_alloc|apply pw_below_drewN|apply below_drew1)|exact HB.out)) hb);have n1_:=Aside0.mk (hbox);have n2_:=Aside0.mk ((by rw [hg];exact (below_size (by repeat (first|(with_reducible first|exact HB.out|apply below_alloc|apply pw_below_drewN|apply below_drew1)|exact HB.out))):w.heap.size ≤ gb330));have n3_:=n2_;clear HB;have HB:=n0_;have BK330:=n1_;have GW330:=n2_;have GE330:=n3_;clear n0_ n1_ n2_ n3_;clear hb hbox hg)|((with_reducible refine gate_callee (f:=19) rfl ?_);refine goesL_ (some 9) rfl rfl Tryd.func19 (by kernel_rfl) rfl #[.string a0,.int .u8 35] rfl (by (try simp only [List.map_toArray,List.map_cons,List.map_nil]);first|done|rfl|(simp only [List.length_drop,List.length_take];rfl)) ?_;(with_reducible refine (spec_l1Cut.calls k a0 35 t331 t332 t333 _ A2.out).mono ?_);rintro e w' ⟨rfl,⟨nd,rfl⟩⟩;refine ⟨_,rfl,?_⟩;(try (rw [drewN_self w14];generalize hq_:World.drewN w14 _ = w14;have n0_:Aside0 (w14.heap[gb330]? = some (.cells #[.string (⟨#[]⟩:ByteArray),.slice none 0 0,.bool false,.string (⟨#[]⟩:ByteArray)] 24 (0,0))):=⟨by rw [← hq_];exact (by (with_reducible repeat (first|refine blk_drewN ?_ _|refine blk_drew ?_|refine blk_alloc ?_ _));exact BK330.out)⟩;have n1_:Aside0 (Below w.heap.size w w14):=⟨by rw [← hq_];exact (by repeat (first|(with_reducible first|exact HB.out|apply below_alloc|apply pw_below_drewN|apply below_drew1|refine below_set ?_ GE330.out)|exact HB.out))⟩;clear BK330 HB hq_;have BK330:=n0_;have HB:=n1_;clear n0_ n1_)))|((with_reducible refine gate_callee (f:=20) rfl ?_);refine goesL_ (some 29) rfl rfl Tryd.func20 (by kernel_rfl) rfl #[.string (t331.extract 2 t331.size)] rfl (by (try simp only [List.map_toArray,List.map_cons,List.map_nil]);first|done|rfl|(simp only [List.length_drop,List.length_take];rfl)) ?_;(with_reducible refine (spec_l1Whole.calls k (t331.extract 2 t331.size) t334 t335 t338 t339 t340 _ A13.out).mono ?_);rintro e w15 ⟨v336,rfl,ho0,hb⟩;refine ⟨_,rfl,?_⟩;have n0_:=Aside0.mk (Kd.R_lower ho0 (below_size (by repeat (first|(with_reducible first|exact HB.out|apply below_alloc|apply pw_below_drewN|apply below_drew1|refine below_set ?_ GE330.out)|exact HB.out))));have n1_:=Aside0.mk (blk_below (g:=gb330) (o:=.cells #[.string (⟨#[]⟩:ByteArray),.slice none 0 0,.bool false,.string (⟨#[]⟩:ByteArray)] 24 (0,0)) (by (with_reducible repeat (first|refine blk_drewN ?_ _|refine blk_drew ?_|refine blk_alloc ?_ _));exact BK330.out) hb);have n2_:=Aside0.mk (below_step (by repeat (first|(with_reducible first|exact HB.out|apply below_alloc|apply pw_below_drewN|apply below_drew1|refine below_set ?_ GE330.out)|exact HB.out)) hb);clear BK330;clear HB;have HO337:=n0_;have BK330:=n1_;have HB:=n2_;clear n0_ n1_ n2_;(try clear hb);(try clear hb2);(try clear hk);(try clear hi);(try clear ho0);have hcz16_0:w15.cell? ⟨gb330,0,none⟩ = some (.string (⟨#[]⟩:ByteArray)):=(blk_cell BK330.out 0).trans rfl;have hcz16_1:w15.cell? ⟨gb330,1,none⟩ = some (.slice none 0 0):=(blk_cell BK330.out 1).trans rfl;have hcz16_2:w15.cell? ⟨gb330,2,none⟩ = some (.bool false):=(blk_cell BK330.out 2).trans rfl;have hcz16_3:w15.cell? ⟨gb330,3,none⟩ = some (.string (⟨#[]⟩:ByteArray)):=(blk_cell BK330.out 3).trans rfl;have hfz16_0:=blk_frozen BK330.out 0;have hfz16_1:=blk_frozen BK330.out 1;have hfz16_2:=blk_frozen BK330.out 2;have hfz16_3:=blk_frozen BK330.out 3;obtain ⟨Ao17,co17,eo17⟩:=Kd.R_slice HO337.out;subst eo17))
      refine bodyPost_ret (results_ct rfl _ _ gb330 24 #[.string t334,.slice Ao17 t335.length co17,.bool t338,.string t339] (0,0) _ rfl (by (with_reducible repeat (first|refine blk_drewN ?_ _|refine blk_drew ?_|refine blk_alloc ?_ _));refine blk_put (cs:=#[.string t334,.slice Ao17 t335.length co17,.bool t338,.string (⟨#[]⟩:ByteArray)]) ?_ 3 _ rfl;(with_reducible repeat (first|refine blk_drewN ?_ _|refine blk_drew ?_|refine blk_alloc ?_ _));refine blk_put (cs:=#[.string t334,.slice Ao17 t335.length co17,.bool false,.string (⟨#[]⟩:ByteArray)]) ?_ 2 _ rfl;(with_reducible repeat (first|refine blk_drewN ?_ _|refine blk_drew ?_|refine blk_alloc ?_ _));refine blk_put (cs:=#[.string t334,.slice none 0 0,.bool false,.string (⟨#[]⟩:ByteArray)]) ?_ 1 _ rfl;(with_reducible repeat (first|refine blk_drewN ?_ _|refine blk_drew ?_|refine blk_alloc ?_ _));refine blk_put (cs:=#[.string (⟨#[]⟩:ByteArray),.slice none 0 0,.bool false,.string (⟨#[]⟩:ByteArray)]) ?_ 0 _ rfl;(with_reducible repeat (first|refine blk_drewN ?_ _|refine blk_drew ?_|refine blk_alloc ?_ _));exact BK330.out) Tryd.underlying24 rfl (by kernel_rfl)) rfl ?_
      exact ⟨_,by first|rfl|(simp <;> rfl)|(simp [*] <;> rfl),by (with_reducible repeat (first|apply Kd.R_alloc|apply Kd.R_drewN|apply Kd.R_drew));exact Kd.R_mono (Kd.R_far (p:=⟨gb330,3,none⟩) (Kd.R_far (p:=⟨gb330,2,none⟩) (Kd.R_far (p:=⟨gb330,1,none⟩) (Kd.R_far (p:=⟨gb330,0,none⟩) (Kd.R_types HO337.out BK330.out (by decide)) (fun _ hk=>hk.2) (.string t334)) (fun _ hk=>hk.2) (.slice Ao17 t335.length co17)) (fun _ hk=>hk.2) (.bool t338)) (fun _ hk=>hk.2) (.string t339)) (fun _ hk=>trivial),by repeat (first|(with_reducible first|exact HB.out|apply below_alloc|apply pw_below_drewN|apply below_drew1|refine below_set ?_ GE330.out)|exact HB.out)⟩
     ·rw [if_neg c11] at H
      have c11b0:((t331.extract 0 2).toList == ([47,47]:List UInt8)) = false:=beq_eq_false_iff_ne.mpr c11
      have c11b1:((t331.extract 0 2).toList != ([47,47]:List UInt8)) = true:=bne_iff_ne.mpr c11
      simp only [Option.some.injEq,Prod.mk.injEq] at H
      obtain ⟨rfl,rfl,rfl,rfl,rfl⟩:=H
      go_enter Tryd.func8,Tryd.ntmps8
      go_wp2_with (first|((with_reducible refine gate_dst (N:=2) rfl ?_);(try (refine gate_guard (by rfl) ?_;dsimp only));refine box_event ?hg (N:=2) ?hd (cs:=#[.string (⟨#[]⟩:ByteArray),.slice none 0 0,.bool false,.string (⟨#[]⟩:ByteArray)]) (t:=24) ?hr ?_;(case hd=>rfl);(case hg=>rfl);(case hr=>first|(go_simp;done)|(go_simp;rfl));intro gb330 hg w18 hbox hb;have n0_:=Aside0.mk (below_step (by repeat (first|(with_reducible first|exact HB.out|apply below_alloc|apply pw_below_drewN|apply below_drew1)|exact HB.out)) hb);have n1_:=Aside0.mk (hbox);have n2_:=Aside0.mk ((by rw [hg];exact (below_size (by repeat (first|(with_reducible first|exact HB.out|apply below_alloc|apply pw_below_drewN|apply below_drew1)|exact HB.out))):w.heap.size ≤ gb330));have n3_:=n2_;clear HB;have HB:=n0_;have BK330:=n1_;have GW330:=n2_;have GE330:=n3_;clear n0_ n1_ n2_ n3_;clear hb hbox hg)|((with_reducible refine gate_callee (f:=19) rfl ?_);refine goesL_ (some 9) rfl rfl Tryd.func19 (by kernel_rfl) rfl #[.string a0,.int .u8 35] rfl (by (try simp only [List.map_toArray,List.map_cons,List.map_nil]);first|done|rfl|(simp only [List.length_drop,List.length_take];rfl)) ?_;(with_reducible refine (spec_l1Cut.calls k a0 35 t331 t332 t333 _ A2.out).mono ?_);rintro e w' ⟨rfl,⟨nd,rfl⟩⟩;refine ⟨_,rfl,?_⟩;(try (rw [drewN_self w18];generalize hq_:World.drewN w18 _ = w18;have n0_:Aside0 (w18.heap[gb330]? = some (.cells #[.string (⟨#[]⟩:ByteArray),.slice none 0 0,.bool false,.string (⟨#[]⟩:ByteArray)] 24 (0,0))):=⟨by rw [← hq_];exact (by (with_reducible repeat (first|refine blk_drewN ?_ _|refine blk_drew ?_|refine blk_alloc ?_ _));exact BK330.out)⟩;have n1_:Aside0 (Below w.heap.size w w18):=⟨by rw [← hq_];exact (by repeat (first|(with_reducible first|exact HB.out|apply below_alloc|apply pw_below_drewN|apply below_drew1|refine below_set ?_ GE330.out)|exact HB.out))⟩;clear BK330 HB hq_;have BK330:=n0_;have HB:=n1_;clear n0_ n1_));have hcz19_0:w18.cell? ⟨gb330,0,none⟩ = some (.string (⟨#[]⟩:ByteArray)):=(blk_cell BK330.out 0).trans rfl;have hcz19_1:w18.cell? ⟨gb330,1,none⟩ = some (.slice none 0 0):=(blk_cell BK330.out 1).trans rfl;have hcz19_2:w18.cell? ⟨gb330,2,none⟩ = some (.bool false):=(blk_cell BK330.out 2).trans rfl;have hcz19_3:w18.cell? ⟨gb330,3,none⟩ = some (.string (⟨#[]⟩:ByteArray)):=(blk_cell BK330.out 3).trans rfl;have hfz19_0:=blk_frozen BK330.out 0;have hfz19_1:=blk_frozen BK330.out 1;have hfz19_2:=blk_frozen BK330.out 2;have hfz19_3:=blk_frozen BK330.out 3))
      refine bodyPost_ret (results_ct rfl _ _ gb330 24 #[.string (⟨#[]⟩:ByteArray),.slice none 0 0,.bool false,.string (⟨#[]⟩:ByteArray)] (0,0) _ rfl (by (with_reducible repeat (first|refine blk_drewN ?_ _|refine blk_drew ?_|refine blk_alloc ?_ _));refine blk_put (cs:=#[.string (⟨#[]⟩:ByteArray),.slice none 0 0,.bool false,.string (⟨#[]⟩:ByteArray)]) ?_ 3 _ rfl;(with_reducible repeat (first|refine blk_drewN ?_ _|refine blk_drew ?_|refine blk_alloc ?_ _));refine blk_put (cs:=#[.string (⟨#[]⟩:ByteArray),.slice none 0 0,.bool false,.string (⟨#[]⟩:ByteArray)]) ?_ 2 _ rfl;(with_reducible repeat (first|refine blk_drewN ?_ _|refine blk_drew ?_|refine blk_alloc ?_ _));refine blk_put (cs:=#[.string (⟨#[]⟩:ByteArray),.slice none 0 0,.bool false,.string (⟨#[]⟩:ByteArray)]) ?_ 1 _ rfl;(with_reducible repeat (first|refine blk_drewN ?_ _|refine blk_drew ?_|refine blk_alloc ?_ _));refine blk_put (cs:=#[.string (⟨#[]⟩:ByteArray),.slice none 0 0,.bool false,.string (⟨#[]⟩:ByteArray)]) ?_ 0 _ rfl;(with_reducible repeat (first|refine blk_drewN ?_ _|refine blk_drew ?_|refine blk_alloc ?_ _));exact BK330.out) Tryd.underlying24 rfl (by kernel_rfl)) rfl ?_
      exact ⟨_,by first|rfl|(simp <;> rfl)|(simp [*] <;> rfl),by first|exact Kd.R_nil _ _ _ _ _|exact Kd.N_nil _ _ _ _ _|exact Kd.V_nil _ _ _ _ _|exact Kd.Q_nil _ _ _ _ _|exact Kd.S_nil _ _ _ _ _,by repeat (first|(with_reducible first|exact HB.out|apply below_alloc|apply pw_below_drewN|apply below_drew1|refine below_set ?_ GE330.out)|exact HB.out)⟩
    ·rw [if_neg c10] at H
     exact absurd H (by simp)
   ·rw [if_neg c9] at H
    exact absurd H (by simp)

end Go.Proofs.YtochmlkladpfgaaDoor.P
