-- Written by a program of this session (patch_print.py over the kit's print; given texts in wip/given).
-- Cut down by a program of this session (wip/tools/prune.py) to what its claim can name.
import Derived.Test.YtochmlkladpfgaaDoorPx0
import Derived.Test.YtochmlkladpfgaaDoorPx4
namespace Go.Proofs.YtochmlkladpfgaaDoor.P
open Go.RowKit Go.Proofs.YtochmlkladpfgaaDoorW.PrintWords Go.Proofs.YtochmlkladpfgaaDoorW.PrintLast Go.Proofs.YtochmlkladpfgaaDoorW.PrintMore
attribute [local go_sem] max2_int min2_int max_two min_two max_three min_three max_four min_four   -- for this text's walks alone
set_option linter.unusedVariables false
set_option linter.unusedSimpArgs false
set_option maxHeartbeats 8000000
set_option maxRecDepth 100000

def impl_writeAddr.f (a0_0:ByteArray) (l0_1:List ByteArray) (a0_2:Bool) (a0_3:ByteArray):Option (ByteArray):=if 2 + a0_0.size ≤ 9223372036854775807 then ((impl_writePath.f a0_0 l0_1 a0_2 a0_3).bind fun t318=>(if ((⟨#[47,47]⟩:ByteArray) ++ a0_0).size + t318.size ≤ 9223372036854775807 then (some (((⟨#[47,47]⟩:ByteArray) ++ a0_0) ++ t318)) else (none))) else (none)
theorem impl_writeAddr.calls (a0_0:ByteArray) (A0_1:Option Addr) (c0_1:Nat) (l0_1:List ByteArray) (a0_2:Bool) (a0_3:ByteArray) (r:ByteArray) (w:World) (hr0_1:Kd.C Kd.string w A0_1 l0_1.length l0_1) (hc0_1:l0_1.length ≤ c0_1) (h:impl_writeAddr.f a0_0 l0_1 a0_2 a0_3 = some r) :
  Calls Tryd.prog 28 #[.agg #[.string a0_0, .slice A0_1 l0_1.length c0_1, .bool a0_2, .string a0_3]] w fun e w'=>e = .returned (.string r) ∧ Below w.heap.size w w':=by
 have hu24:=Tryd.underlying24
 have HR0_1:=Aside0.mk hr0_1
 have HC0_1:=Aside0.mk hc0_1
 clear hr0_1 hc0_1
 have HB:=Aside0.mk (Below.refl w.heap.size w)
 have H:(if 2 + a0_0.size ≤ 9223372036854775807 then ((impl_writePath.f a0_0 l0_1 a0_2 a0_3).bind fun t318=>(if ((⟨#[47,47]⟩:ByteArray) ++ a0_0).size + t318.size ≤ 9223372036854775807 then (some (((⟨#[47,47]⟩:ByteArray) ++ a0_0) ++ t318)) else (none))) else (none)) = some r:=h
 clear h
 by_cases c2:2 + a0_0.size ≤ 9223372036854775807
 ·rw [if_pos c2] at H
  have c2b0:=eq_true c2
  have c2b1:=decide_eq_true c2
  try have c2b2:(9223372036854775807 < 2 + a0_0.size) = False:=eq_false (Nat.not_lt.2 c2)
  replace H:=Option.bind_eq_some_iff.mp H
  obtain ⟨t318,A30,H⟩:=H
  replace H:(if ((⟨#[47,47]⟩:ByteArray) ++ a0_0).size + t318.size ≤ 9223372036854775807 then (some (((⟨#[47,47]⟩:ByteArray) ++ a0_0) ++ t318)) else (none)) = some r:=H
  have A3:=Aside0.mk A30
  clear A30
  by_cases c4:((⟨#[47,47]⟩:ByteArray) ++ a0_0).size + t318.size ≤ 9223372036854775807
  ·rw [if_pos c4] at H
   have c4b0:=eq_true c4
   have c4b1:=decide_eq_true c4
   try have c4b3:(9223372036854775807 < 2 + a0_0.size + t318.size) = False:=eq_false (Nat.not_lt.2 (by have h_:=c4;simp only [ByteArray.size_append] at h_;exact h_))
   try have c4b2:(9223372036854775807 < ((⟨#[47,47]⟩:ByteArray) ++ a0_0).size + t318.size) = False:=eq_false (Nat.not_lt.2 c4)
   obtain rfl:=Option.some.inj H
   go_enter Tryd.func28,Tryd.ntmps28
   try go_wp2_with (first|((with_reducible refine gate_dst (N:=1) rfl ?_);refine box_event ?hg (N:=1) ?hd (cs:=#[.string a0_0, .slice A0_1 l0_1.length c0_1, .bool a0_2, .string a0_3]) (t:=24) ?hr ?_;(case hd=>rfl);(case hg=>rfl);(case hr=>first|(go_simp;done)|(go_simp;rfl));intro gb317 hg w5 hbox hb;have n0_:=Aside0.mk (below_step (by repeat (first|(with_reducible first|exact HB.out|apply below_alloc|apply pw_below_drewN|apply below_drew1)|exact HB.out)) hb);have n1_:=Aside0.mk (hbox);have n2_:=Aside0.mk ((by rw [hg];exact (below_size (by repeat (first|(with_reducible first|exact HB.out|apply below_alloc|apply pw_below_drewN|apply below_drew1)|exact HB.out))):w.heap.size ≤ gb317));have n3_:=n2_;clear HB;have HB:=n0_;have BK317:=n1_;have GW317:=n2_;have GE317:=n3_;clear n0_ n1_ n2_ n3_;clear hb hbox hg))
   have n0_:=Aside0.mk (blk_drew BK317.out)
   have n1_:=Aside0.mk (below_drew1 HB.out)
   clear BK317
   clear HB
   have BK317:=n0_
   have HB:=n1_
   clear n0_ n1_
   refine start_ (n:=7) (S:=fun w'=>w'.cell? ⟨gb317,0,none⟩ = some (.string a0_0) ∧ w'.cell? ⟨gb317,1,none⟩ = some (.slice A0_1 l0_1.length c0_1) ∧ w'.cell? ⟨gb317,2,none⟩ = some (.bool a0_2) ∧ w'.cell? ⟨gb317,3,none⟩ = some (.string a0_3)) (ds:=[]) #[false,false,false,false,false,false,false] (by kernel_rfl) rfl rfl ⟨(blk_cell BK317.out 0).trans rfl,(blk_cell BK317.out 1).trans rfl,(blk_cell BK317.out 2).trans rfl,(blk_cell BK317.out 3).trans rfl⟩ (fun hHeld=>?_)
   generalize w5.drew = w6 at BK317 HB hHeld ⊢
   refine pure_ (i:=0) (N:=some 3) (v:=?_) (a':=?_) #[true,false,false,false,false,false,false] rfl rfl (by kernel_rfl) (fun _ _ _ h=>h) (Or.inl ⟨by rfl,?_⟩) ?_ ?_
   rotate_left
   ·intro w'
    go_simp
    with_reducible rfl
   rotate_left
   ·simp only [Act.put,List.setIfInBounds_toArray,List.set_cons_zero,List.set_cons_succ,i64_w,i32_w]
    rfl
   refine take_ (i:=1) (N:=some 4) (v:=?_) (a':=?_) #[true,true,false,false,false,false,false] rfl rfl (by kernel_rfl) (fun _ _ _ h=>h) (Or.inl ⟨by rfl,?_⟩) hHeld ?_ ?_
   rotate_left
   ·rintro w' ⟨s0,s1,s2,s3⟩
    go_simp
    with_reducible rfl
   rotate_left
   ·simp only [Act.put,List.setIfInBounds_toArray,List.set_cons_zero,List.set_cons_succ,i64_w,i32_w]
    rfl
   refine pure_ (i:=2) (N:=some 5) (v:=?_) (a':=?_) #[true,true,true,false,false,false,false] rfl rfl (by kernel_rfl) (fun _ _ _ h=>h) (Or.inl ⟨by rfl,?_⟩) ?_ ?_
   rotate_left
   ·intro w'
    go_simp
    with_reducible rfl
   rotate_left
   ·simp only [Act.put,List.setIfInBounds_toArray,List.set_cons_zero,List.set_cons_succ,i64_w,i32_w]
    rfl
   refine take_ (i:=3) (N:=some 6) (v:=?_) (a':=?_) #[true,true,true,true,false,false,false] rfl rfl (by kernel_rfl) (fun _ _ _ h=>h) (Or.inl ⟨by rfl,?_⟩) hHeld ?_ ?_
   rotate_left
   ·rintro w' ⟨s0,s1,s2,s3⟩
    go_simp
    with_reducible rfl
   rotate_left
   ·simp only [Act.put,List.setIfInBounds_toArray,List.set_cons_zero,List.set_cons_succ,i64_w,i32_w]
    rfl
   refine one_ (i:=4) (N:=some 7) #[true,true,true,true,true,false,false] rfl rfl (by kernel_rfl) (by decide) (fun K hK=>?_)
   refine goes_ Tryd.func47 (by kernel_rfl) rfl #[.agg #[.string a0_0, .slice A0_1 l0_1.length c0_1, .bool a0_2, .string a0_3]] (by rfl) rfl rfl (by (try simp only [List.map_toArray,List.map_cons,List.map_nil]);first|done|rfl|(simp only [List.length_drop,List.length_take];rfl)) ?_
   with_reducible refine (impl_writePath.calls a0_0 _ _ l0_1 a0_2 a0_3 t318 _ ?side1 ?side2 A3.out).mono ?_
   (case side1=>repeat (first|exact (Kd.C_below HR0_1.out HB.out)|(with_reducible refine Kd.C_alloc ?_ _)|(with_reducible refine Kd.C_drewN ?_ _)|(with_reducible refine Kd.C_drew ?_)))
   (case side2=>exact HC0_1.out)
   rintro e w7 ⟨rfl,hb⟩
   refine ⟨_,rfl,?_⟩
   have n0_:=Aside0.mk (blk_below (g:=gb317) (o:=.cells #[.string a0_0, .slice A0_1 l0_1.length c0_1, .bool a0_2, .string a0_3] 24 (0,0)) (by (with_reducible repeat (first|refine blk_drewN ?_ _|refine blk_drew ?_|refine blk_alloc ?_ _));exact BK317.out) hb)
   have n1_:=Aside0.mk (below_step (by repeat (first|(with_reducible first|exact HB.out|apply below_alloc|apply pw_below_drewN|apply below_drew1|refine below_set ?_ GE317.out)|exact HB.out)) hb)
   clear BK317
   clear HB
   have BK317:=n0_
   have HB:=n1_
   clear n0_ n1_
   (try clear hb)
   (try clear hb2)
   (try clear hk)
   (try clear hi)
   refine hK.out _ _ ⟨(blk_cell BK317.out 0).trans rfl,(blk_cell BK317.out 1).trans rfl,(blk_cell BK317.out 2).trans rfl,(blk_cell BK317.out 3).trans rfl⟩ (fun hHeld=>?_)
   clear hK K
   refine norm_ (a':=?_) ?_ ?_
   rotate_left
   ·show Act.put _ (some 7) _ = _
    simp only [Act.put,List.setIfInBounds_toArray,List.set_cons_zero,List.set_cons_succ,i64_w,i32_w]
    rfl
   refine pure_ (i:=5) (N:=some 8) (v:=?_) (a':=?_) #[true,true,true,true,true,true,false] rfl rfl (by kernel_rfl) (fun _ _ _ h=>h) (Or.inl ⟨by rfl,?_⟩) ?_ ?_
   rotate_left
   ·intro w'
    go_simp
    with_reducible rfl
   rotate_left
   ·simp only [Act.put,List.setIfInBounds_toArray,List.set_cons_zero,List.set_cons_succ,i64_w,i32_w]
    rfl
   refine pure_ (i:=6) (N:=some 2) (v:=?_) (a':=?_) #[true,true,true,true,true,true,true] rfl rfl (by kernel_rfl) (fun _ _ _ h=>h) (Or.inl ⟨by rfl,?_⟩) ?_ ?_
   rotate_left
   ·intro w'
    go_simp
    with_reducible rfl
   rotate_left
   ·simp only [Act.put,List.setIfInBounds_toArray,List.set_cons_zero,List.set_cons_succ,i64_w,i32_w]
    rfl
   refine done_ (by kernel_rfl) ?_
   try go_wp2
   go_ret
   exact ⟨by first|rfl|(simp <;> rfl)|(simp [*] <;> rfl),by repeat (first|(with_reducible first|exact HB.out|apply below_alloc|apply pw_below_drewN|apply below_drew1|refine below_set ?_ GE317.out)|exact HB.out)⟩
  ·rw [if_neg c4] at H
   exact absurd H (by simp)
 ·rw [if_neg c2] at H
  exact absurd H (by simp)

def impl_allSmallLetters.l0:Nat → ByteArray → Int → Option (Bool)
 | 0,_,_=>none
 | k + 1,x0,x3=>if x3 < (x0.size:Int) then (if 0 ≤ x3 then (if (bt x0 x3) < 97 then (some false) else (if (bt x0 x3) > 122 then (some false) else (impl_allSmallLetters.l0 k x0 (wrap64 (x3 + 1))))) else (none)) else (some true)
def impl_allSmallLetters.f (k:Nat) (a0:ByteArray):Option (Bool):=impl_allSmallLetters.l0 k a0 0
theorem impl_allSmallLetters.mono_l:∀ k,(∀ y0 y1,LeO (impl_allSmallLetters.l0 k y0 y1) (impl_allSmallLetters.l0 (k + 1) y0 y1))
 | 0=>fun _ _ r h=>by simp [impl_allSmallLetters.l0] at h
 | k + 1=>by
  have ih0:=impl_allSmallLetters.mono_l k
  ·intro y0 y1
   unfold impl_allSmallLetters.l0
   repeat' first
   | (with_reducible exact ih0 _ _)
   | (with_reducible exact LeO.refl _)
   | (with_reducible exact LeO.none _)
   | (with_reducible refine LeO.ite ?_ ?_)
   | (with_reducible refine LeO.bind ?_ (fun _=>?_))
   | exact ih0 _ _
   | exact LeO.none _
   | refine LeO.ite ?_ ?_
   | refine LeO.bind ?_ (fun _=>?_)
theorem impl_allSmallLetters.mono:∀ a0 k,LeO (impl_allSmallLetters.f k a0) (impl_allSmallLetters.f (k + 1) a0):=by
 intro a0 k
 have ih0:=impl_allSmallLetters.mono_l k
 unfold impl_allSmallLetters.f
 repeat' first
   | (with_reducible exact ih0 _ _)
   | (with_reducible exact LeO.refl _)
   | (with_reducible exact LeO.none _)
   | (with_reducible refine LeO.ite ?_ ?_)
   | (with_reducible refine LeO.bind ?_ (fun _=>?_))
   | exact ih0 _ _
   | exact LeO.none _
   | refine LeO.ite ?_ ?_
   | refine LeO.bind ?_ (fun _=>?_)
theorem impl_allSmallLetters.calls (k:Nat) (a0:ByteArray) (r:Bool) (w:World) (h:impl_allSmallLetters.f k a0 = some r) :
  Calls Tryd.prog 51 #[.string a0] w fun e w'=>e = .returned (.bool r) ∧ Drawn0 w w':=by
 have H:(impl_allSmallLetters.l0 k a0 0) = some r:=h
 clear h
 have H':=Aside0.mk H
 clear H
 go_enter Tryd.func51,Tryd.ntmps51
 go_wp2
 go_loopg [3] k (fun kq v3 w'=>∃ (x3_1:Int),v3 = .int .i64 x3_1 ∧ Aside0 (impl_allSmallLetters.l0 kq a0 x3_1 = some r) ∧ Aside0 (kq ≤ k) ∧ Drawn0 w w')
 case atStart=>exact ⟨(0),(by first|rfl|(simp;done)|(simp only [i64_w,i32_w];done)|(simp only [i64_w,i32_w];rfl)|(simp [*];done)|(simp [emp_bne,emp_beq];done)),H',⟨Nat.le_refl _⟩,by repeat (first|exact Drawn0.refl _|apply Drawn0.step)⟩
 case round =>
  clear H'
  obtain ⟨x3_1,rfl,HA,HK1,⟨m1,rfl⟩⟩:=hrel
  cases gk with
  | zero=>exact absurd HA.out (by simp [impl_allSmallLetters.l0])
  | succ k1 =>
   have H:=HA.out
   clear HA
   simp only [impl_allSmallLetters.l0] at H
   by_cases c2:x3_1 < (a0.size:Int)
   ·rw [if_pos c2] at H
    have c2b0:decide (x3_1 < (a0.size:Int)) = true:=decide_eq_true c2
    clear c2
    by_cases c3:0 ≤ x3_1
    ·rw [if_pos c3] at H
     have c3b0:decide (0 ≤ x3_1) = true:=decide_eq_true c3
     clear c3
     by_cases c5:(bt a0 x3_1) < 97
     ·rw [if_pos c5] at H
      have c5b0:decide ((bt a0 x3_1) < 97) = true:=decide_eq_true c5
      clear c5
      obtain rfl:=Option.some.inj H
      have p4:0 ≤ (x3_1:Int):=of_decide_eq_true (by first|(with_reducible assumption)|assumption)
      have q4:x3_1 < (a0.size:Int):=of_decide_eq_true (by first|(with_reducible assumption)|assumption)
      have hx4:=bt_at a0 x3_1
      replace p4:=eq_true p4
      replace q4:=eq_true q4
      go_wp2
      go_ret
      exact ⟨by first|rfl|(simp;done)|(simp only [i64_w,i32_w];done)|(simp only [i64_w,i32_w];rfl)|(simp [*];done)|(simp [emp_bne,emp_beq];done),by repeat (first|exact Drawn0.refl _|apply Drawn0.step)⟩
     ·rw [if_neg c5] at H
      have c5b0:decide ((bt a0 x3_1) < 97) = false:=decide_eq_false c5
      clear c5
      by_cases c7:(bt a0 x3_1) > 122
      ·rw [if_pos c7] at H
       have c7b0:decide (122 < (bt a0 x3_1)) = true:=decide_eq_true c7
       clear c7
       obtain rfl:=Option.some.inj H
       have p4:0 ≤ (x3_1:Int):=of_decide_eq_true (by first|(with_reducible assumption)|assumption)
       have q4:x3_1 < (a0.size:Int):=of_decide_eq_true (by first|(with_reducible assumption)|assumption)
       have hx4:=bt_at a0 x3_1
       replace p4:=eq_true p4
       replace q4:=eq_true q4
       have p6:0 ≤ (x3_1:Int):=of_decide_eq_true (by first|(with_reducible assumption)|assumption)
       have q6:x3_1 < (a0.size:Int):=of_decide_eq_true (by first|(with_reducible assumption)|assumption)
       have hx6:=bt_at a0 x3_1
       replace p6:=eq_true p6
       replace q6:=eq_true q6
       go_wp2
       go_ret
       exact ⟨by first|rfl|(simp;done)|(simp only [i64_w,i32_w];done)|(simp only [i64_w,i32_w];rfl)|(simp [*];done)|(simp [emp_bne,emp_beq];done),by repeat (first|exact Drawn0.refl _|apply Drawn0.step)⟩
      ·rw [if_neg c7] at H
       have c7b0:decide (122 < (bt a0 x3_1)) = false:=decide_eq_false c7
       clear c7
       have H':=Aside0.mk H
       clear H
       have p4:0 ≤ (x3_1:Int):=of_decide_eq_true (by first|(with_reducible assumption)|assumption)
       have q4:x3_1 < (a0.size:Int):=of_decide_eq_true (by first|(with_reducible assumption)|assumption)
       have hx4:=bt_at a0 x3_1
       replace p4:=eq_true p4
       replace q4:=eq_true q4
       have p6:0 ≤ (x3_1:Int):=of_decide_eq_true (by first|(with_reducible assumption)|assumption)
       have q6:x3_1 < (a0.size:Int):=of_decide_eq_true (by first|(with_reducible assumption)|assumption)
       have hx6:=bt_at a0 x3_1
       replace p6:=eq_true p6
       replace q6:=eq_true q6
       go_wp2
       go_roundg k1
       case measure=>have:=HK1.out;omega
       case rel=>exact ⟨(wrap64 (x3_1 + 1)),(by first|rfl|(simp;done)|(simp only [i64_w,i32_w];done)|(simp only [i64_w,i32_w];rfl)|(simp [*];done)|(simp [emp_bne,emp_beq];done)),H',⟨by have:=HK1.out;omega⟩,by repeat (first|exact Drawn0.refl _|apply Drawn0.step)⟩
    ·rw [if_neg c3] at H
     exact absurd H (by simp)
   ·rw [if_neg c2] at H
    have c2b0:decide (x3_1 < (a0.size:Int)) = false:=decide_eq_false c2
    clear c2
    obtain rfl:=Option.some.inj H
    go_wp2
    go_ret
    exact ⟨by first|rfl|(simp;done)|(simp only [i64_w,i32_w];done)|(simp only [i64_w,i32_w];rfl)|(simp [*];done)|(simp [emp_bne,emp_beq];done),by repeat (first|exact Drawn0.refl _|apply Drawn0.step)⟩

def impl_isHouse.f (k:Nat) (a0:ByteArray):Option (Bool):=if (a0.size:Int) ≥ 1 then (if (a0.size:Int) ≤ 5 then ((impl_allSmallLetters.f k a0).bind fun t319=>(some t319)) else (some false)) else (some false)
theorem impl_isHouse.mono:∀ a0 k,LeO (impl_isHouse.f k a0) (impl_isHouse.f (k + 1) a0):=by
 intro a0 k
 unfold impl_isHouse.f
 repeat' first
   | (with_reducible exact impl_allSmallLetters.mono _ _)
   | (with_reducible exact LeO.refl _)
   | (with_reducible exact LeO.none _)
   | (with_reducible refine LeO.ite ?_ ?_)
   | (with_reducible refine LeO.bind ?_ (fun _=>?_))
   | exact impl_allSmallLetters.mono _ _
   | exact LeO.none _
   | refine LeO.ite ?_ ?_
   | refine LeO.bind ?_ (fun _=>?_)
theorem impl_isHouse.calls (k:Nat) (a0:ByteArray) (r:Bool) (w:World) (h:impl_isHouse.f k a0 = some r) :
  Calls Tryd.prog 36 #[.string a0] w fun e w'=>e = .returned (.bool r) ∧ Drawn0 w w':=by
 have H:(if (a0.size:Int) ≥ 1 then (if (a0.size:Int) ≤ 5 then ((impl_allSmallLetters.f k a0).bind fun t319=>(some t319)) else (some false)) else (some false)) = some r:=h
 clear h
 by_cases c2:(a0.size:Int) ≥ 1
 ·rw [if_pos c2] at H
  have c2b0:decide (1 ≤ (a0.size:Int)) = true:=decide_eq_true c2
  have c2b1:decide (1 ≤ a0.size) = true:=decide_eq_true (by omega)
  clear c2
  by_cases c3:(a0.size:Int) ≤ 5
  ·rw [if_pos c3] at H
   have c3b0:decide ((a0.size:Int) ≤ 5) = true:=decide_eq_true c3
   have c3b1:decide (a0.size ≤ 5) = true:=decide_eq_true (by omega)
   clear c3
   replace H:=Option.bind_eq_some_iff.mp H
   obtain ⟨t319,A40,H⟩:=H
   replace H:(some t319) = some r:=H
   have A4:=Aside0.mk A40
   clear A40
   obtain rfl:=Option.some.inj H
   go_enter Tryd.func36,Tryd.ntmps36
   go_wp2_with (first|(go_at_call 51;(with_reducible refine (impl_allSmallLetters.calls k a0 t319 _ A4.out).mono ?_);rintro e w' ⟨rfl,⟨nd,rfl⟩⟩))
   go_ret
   exact ⟨by first|rfl|(simp;done)|(simp only [i64_w,i32_w];done)|(simp only [i64_w,i32_w];rfl)|(simp [*];done)|(simp [emp_bne,emp_beq];done),by repeat (first|exact Drawn0.refl _|apply Drawn0.step)⟩
  ·rw [if_neg c3] at H
   have c3b0:decide ((a0.size:Int) ≤ 5) = false:=decide_eq_false c3
   have c3b1:decide (a0.size ≤ 5) = false:=decide_eq_false (by omega)
   clear c3
   obtain rfl:=Option.some.inj H
   go_enter Tryd.func36,Tryd.ntmps36
   go_wp2
   go_ret
   exact ⟨by first|rfl|(simp;done)|(simp only [i64_w,i32_w];done)|(simp only [i64_w,i32_w];rfl)|(simp [*];done)|(simp [emp_bne,emp_beq];done),by repeat (first|exact Drawn0.refl _|apply Drawn0.step)⟩
 ·rw [if_neg c2] at H
  have c2b0:decide (1 ≤ (a0.size:Int)) = false:=decide_eq_false c2
  have c2b1:decide (1 ≤ a0.size) = false:=decide_eq_false (by omega)
  clear c2
  obtain rfl:=Option.some.inj H
  go_enter Tryd.func36,Tryd.ntmps36
  go_wp2
  go_ret
  exact ⟨by first|rfl|(simp;done)|(simp only [i64_w,i32_w];done)|(simp only [i64_w,i32_w];rfl)|(simp [*];done)|(simp [emp_bne,emp_beq];done),by repeat (first|exact Drawn0.refl _|apply Drawn0.step)⟩

/-- What a figure of sixteen is worth. -/
def impl_figureValue.f (a0:Int):Option (Int × Bool) :=
 if 0 ≤ a0 ∧ a0 ≤ 255 then some (if 48 ≤ a0 ∧ a0 ≤ 57 then (a0 - 48,true) else if 65 ≤ a0 ∧ a0 ≤ 70 then (a0 - 55,true) else if 97 ≤ a0 ∧ a0 ≤ 102 then (a0 - 87,true) else (0,false)) else none
def impl_figureValue.hex:ByteArray:=⟨#[48,49,50,51,52,53,54,55,56,57,65,66,67,68,69,70]⟩
/-- The figure at a place. -/
def impl_figureValue.fig (p:Nat):Nat:=if p < 10 then 48 + p else 55 + p
theorem impl_figureValue.decode (p:Nat) (h:p < 16):Utf8.decode impl_figureValue.hex p = (impl_figureValue.fig p,1):=by
 have hc:p = 0 ∨ p = 1 ∨ p = 2 ∨ p = 3 ∨ p = 4 ∨ p = 5 ∨ p = 6 ∨ p = 7 ∨ p = 8 ∨ p = 9 ∨ p = 10 ∨ p = 11 ∨ p = 12 ∨ p = 13 ∨ p = 14 ∨ p = 15:=by omega
 rcases hc with rfl|rfl|rfl|rfl|rfl|rfl|rfl|rfl|rfl|rfl|rfl|rfl|rfl|rfl|rfl|rfl <;> rfl
/-- The figure as it is looked for: a small letter is a great one. -/
def impl_figureValue.up (a0:Int):Int:=if 97 ≤ a0 ∧ a0 ≤ 102 then a0 - 32 else a0
theorem impl_figureValue.hit {a0:Int} {p:Nat} (h0:0 ≤ a0) (h1:a0 ≤ 255) (hp:p < 16) (h:(impl_figureValue.fig p:Int) = impl_figureValue.up a0):impl_figureValue.f a0 = some ((p:Int),true):=by
 unfold impl_figureValue.f
 rw [if_pos ⟨h0,h1⟩]
 unfold impl_figureValue.fig impl_figureValue.up at h
 congr 1
 repeat' split at h
 all_goals repeat' split
 all_goals first|(simp only [Prod.mk.injEq,and_true];omega)|(exfalso;omega)
theorem impl_figureValue.miss {a0:Int} (h0:0 ≤ a0) (h1:a0 ≤ 255) (h:∀ p:Nat,p < 16 → (impl_figureValue.fig p:Int) ≠ impl_figureValue.up a0):impl_figureValue.f a0 = some (0,false):=by
 unfold impl_figureValue.f
 rw [if_pos ⟨h0,h1⟩]
 unfold impl_figureValue.fig impl_figureValue.up at h
 by_cases c1:48 ≤ a0 ∧ a0 ≤ 57
 ·exfalso
  have:=h (a0 - 48).toNat (by omega)
  rw [if_pos (by omega),if_neg (by omega)] at this;omega
 by_cases c2:65 ≤ a0 ∧ a0 ≤ 70
 ·exfalso
  have:=h (a0 - 55).toNat (by omega)
  rw [if_neg (by omega),if_neg (by omega)] at this;omega
 by_cases c3:97 ≤ a0 ∧ a0 ≤ 102
 ·exfalso
  have:=h (a0 - 87).toNat (by omega)
  rw [if_neg (by omega),if_pos c3] at this;omega
 rw [if_neg c1,if_neg c2,if_neg c3]
theorem impl_figureValue.fig_bd (p:Nat) (h:p < 16):48 ≤ impl_figureValue.fig p ∧ impl_figureValue.fig p ≤ 70:=by
 unfold impl_figureValue.fig;split <;> omega
def impl_figureValue.Missed (a0:Int) (n:Nat):Prop:=∀ p:Nat,p < n → (impl_figureValue.fig p:Int) ≠ impl_figureValue.up a0
theorem impl_figureValue.below (w:World) (p:Nat):Below w.heap.size w (w.iter impl_figureValue.hex p):=below_alloc (Below.refl _ _) _
theorem impl_figureValue.calls (a0:Int) (r1:Int) (r2:Bool) (w:World) (h:impl_figureValue.f a0 = some (r1,r2)) :
  Calls Tryd.prog 84 #[.int .u8 a0] w fun e w'=>e = .returned (.tuple #[.int .i64 r1, .bool r2]) ∧ Below w.heap.size w w':=by
 have hb:0 ≤ a0 ∧ a0 ≤ 255:=by
  unfold impl_figureValue.f at h
  split at h
  ·assumption
  ·cases h
 obtain ⟨h0,h1⟩:=hb
 have HH:=Aside0.mk h
 clear h
 have HX:=Aside0.mk (fun (p:Nat) (ty:TypeId) (hp:p < impl_figureValue.hex.size)=>run_next_any (P:=Tryd.prog) w impl_figureValue.hex p ty hp)
 have HE:=Aside0.mk (fun (p:Nat) (ty:TypeId) (hp:¬ p < impl_figureValue.hex.size)=>run_next_end (P:=Tryd.prog) w impl_figureValue.hex p ty hp)
 by_cases c:97 ≤ a0 ∧ a0 ≤ 102
 ·obtain ⟨c1,c2⟩:=c
  have HU:=Aside0.mk (show impl_figureValue.up a0 = a0 - 32 by unfold impl_figureValue.up;rw [if_pos ⟨c1,c2⟩])
  go_enter Tryd.func84,Tryd.ntmps84
  go_wp2
  go_loopw [] (fun w'=>∃ p:Nat,p ≤ 16 ∧ w' = w.iter impl_figureValue.hex p ∧ Aside0 (impl_figureValue.Missed a0 p)) (fun w'=>16 - w'.iterPos w.heap.size)
  case atStart=>exact ⟨0,Nat.zero_le _,rfl,⟨fun p hp=>absurd hp (by omega)⟩⟩
  case round =>
   obtain ⟨p,hp,rfl,HM⟩:=hrel
   by_cases hlt:p < 16
   ·have hx:∀ ty,(Instr.next (.pointer (some ⟨w.heap.size,0,none⟩)) true ty).run Tryd.prog (w.iter impl_figureValue.hex p) = .ok (.tuple #[.bool true, .int .i64 p, .int .i32 (impl_figureValue.fig p)]) (w.iter impl_figureValue.hex (p + 1)):=fun ty=>by
     rw [HX.out p ty hlt,impl_figureValue.decode p hlt]
    have hf:=impl_figureValue.fig_bd p hlt
    by_cases he:(impl_figureValue.fig p:Int) = a0 - 32
    ·have hr:=HH.out
     rw [impl_figureValue.hit h0 h1 hlt (he.trans HU.out.symm)] at hr
     obtain ⟨rfl,rfl⟩:=Prod.mk.inj (Option.some.inj hr)
     have hd:((impl_figureValue.fig p:Int) == a0 - 32) = true:=beq_iff_eq.mpr he
     clear he hr
     go_wp2
     go_ret2
     exact ⟨rfl,impl_figureValue.below w _⟩
    ·have hd:((impl_figureValue.fig p:Int) == a0 - 32) = false:=beq_eq_false_iff_ne.mpr he
     have HM2:=Aside0.mk (show impl_figureValue.Missed a0 (p + 1) from fun q hq=>by
      rcases Nat.lt_or_ge q p with hqp|hqp
      ·exact HM.out q hqp
      ·obtain rfl:q = p:=by omega
       rw [HU.out];exact he)
     clear he
     go_wp2
     go_roundw
     case rel=>exact ⟨p + 1,by omega,rfl,HM2⟩
     case measure=>simp;omega
   ·obtain rfl:p = 16:=by omega
    have hx:=fun ty=>HE.out 16 ty (by decide)
    have hr:=HH.out
    rw [impl_figureValue.miss h0 h1 HM.out] at hr
    obtain ⟨rfl,rfl⟩:=Prod.mk.inj (Option.some.inj hr)
    clear hr
    go_wp2
    go_ret2
    exact ⟨rfl,impl_figureValue.below w _⟩
 by_cases c1:97 ≤ a0
 ·have c2:decide (a0 ≤ 102) = false:=decide_eq_false (fun h=>c ⟨c1,h⟩)
  have HU:=Aside0.mk (show impl_figureValue.up a0 = a0 by unfold impl_figureValue.up;rw [if_neg c])
  clear c
  go_enter Tryd.func84,Tryd.ntmps84
  go_wp2
  go_loopw [] (fun w'=>∃ p:Nat,p ≤ 16 ∧ w' = w.iter impl_figureValue.hex p ∧ Aside0 (impl_figureValue.Missed a0 p)) (fun w'=>16 - w'.iterPos w.heap.size)
  case atStart=>exact ⟨0,Nat.zero_le _,rfl,⟨fun p hp=>absurd hp (by omega)⟩⟩
  case round =>
   obtain ⟨p,hp,rfl,HM⟩:=hrel
   by_cases hlt:p < 16
   ·have hx:∀ ty,(Instr.next (.pointer (some ⟨w.heap.size,0,none⟩)) true ty).run Tryd.prog (w.iter impl_figureValue.hex p) = .ok (.tuple #[.bool true, .int .i64 p, .int .i32 (impl_figureValue.fig p)]) (w.iter impl_figureValue.hex (p + 1)):=fun ty=>by
     rw [HX.out p ty hlt,impl_figureValue.decode p hlt]
    have hf:=impl_figureValue.fig_bd p hlt
    by_cases he:(impl_figureValue.fig p:Int) = a0
    ·have hr:=HH.out
     rw [impl_figureValue.hit h0 h1 hlt (he.trans HU.out.symm)] at hr
     obtain ⟨rfl,rfl⟩:=Prod.mk.inj (Option.some.inj hr)
     have hd:((impl_figureValue.fig p:Int) == a0) = true:=beq_iff_eq.mpr he
     clear he hr
     go_wp2
     go_ret2
     exact ⟨rfl,impl_figureValue.below w _⟩
    ·have hd:((impl_figureValue.fig p:Int) == a0) = false:=beq_eq_false_iff_ne.mpr he
     have HM2:=Aside0.mk (show impl_figureValue.Missed a0 (p + 1) from fun q hq=>by
      rcases Nat.lt_or_ge q p with hqp|hqp
      ·exact HM.out q hqp
      ·obtain rfl:q = p:=by omega
       rw [HU.out];exact he)
     clear he
     go_wp2
     go_roundw
     case rel=>exact ⟨p + 1,by omega,rfl,HM2⟩
     case measure=>simp;omega
   ·obtain rfl:p = 16:=by omega
    have hx:=fun ty=>HE.out 16 ty (by decide)
    have hr:=HH.out
    rw [impl_figureValue.miss h0 h1 HM.out] at hr
    obtain ⟨rfl,rfl⟩:=Prod.mk.inj (Option.some.inj hr)
    clear hr
    go_wp2
    go_ret2
    exact ⟨rfl,impl_figureValue.below w _⟩
 ·have c2:decide (97 ≤ a0) = false:=decide_eq_false c1
  have HU:=Aside0.mk (show impl_figureValue.up a0 = a0 by unfold impl_figureValue.up;rw [if_neg c])
  clear c c1
  go_enter Tryd.func84,Tryd.ntmps84
  go_wp2
  go_loopw [] (fun w'=>∃ p:Nat,p ≤ 16 ∧ w' = w.iter impl_figureValue.hex p ∧ Aside0 (impl_figureValue.Missed a0 p)) (fun w'=>16 - w'.iterPos w.heap.size)
  case atStart=>exact ⟨0,Nat.zero_le _,rfl,⟨fun p hp=>absurd hp (by omega)⟩⟩
  case round =>
   obtain ⟨p,hp,rfl,HM⟩:=hrel
   by_cases hlt:p < 16
   ·have hx:∀ ty,(Instr.next (.pointer (some ⟨w.heap.size,0,none⟩)) true ty).run Tryd.prog (w.iter impl_figureValue.hex p) = .ok (.tuple #[.bool true, .int .i64 p, .int .i32 (impl_figureValue.fig p)]) (w.iter impl_figureValue.hex (p + 1)):=fun ty=>by
     rw [HX.out p ty hlt,impl_figureValue.decode p hlt]
    have hf:=impl_figureValue.fig_bd p hlt
    by_cases he:(impl_figureValue.fig p:Int) = a0
    ·have hr:=HH.out
     rw [impl_figureValue.hit h0 h1 hlt (he.trans HU.out.symm)] at hr
     obtain ⟨rfl,rfl⟩:=Prod.mk.inj (Option.some.inj hr)
     have hd:((impl_figureValue.fig p:Int) == a0) = true:=beq_iff_eq.mpr he
     clear he hr
     go_wp2
     go_ret2
     exact ⟨rfl,impl_figureValue.below w _⟩
    ·have hd:((impl_figureValue.fig p:Int) == a0) = false:=beq_eq_false_iff_ne.mpr he
     have HM2:=Aside0.mk (show impl_figureValue.Missed a0 (p + 1) from fun q hq=>by
      rcases Nat.lt_or_ge q p with hqp|hqp
      ·exact HM.out q hqp
      ·obtain rfl:q = p:=by omega
       rw [HU.out];exact he)
     clear he
     go_wp2
     go_roundw
     case rel=>exact ⟨p + 1,by omega,rfl,HM2⟩
     case measure=>simp;omega
   ·obtain rfl:p = 16:=by omega
    have hx:=fun ty=>HE.out 16 ty (by decide)
    have hr:=HH.out
    rw [impl_figureValue.miss h0 h1 HM.out] at hr
    obtain ⟨rfl,rfl⟩:=Prod.mk.inj (Option.some.inj hr)
    clear hr
    go_wp2
    go_ret2
    exact ⟨rfl,impl_figureValue.below w _⟩

def impl_signByte.f (a0:ByteArray) (a1:Int):Option (Int × Bool):=if (wrap64 ((a0.size:Int) - a1)) < 3 then (some (0,false)) else (if 0 ≤ (wrap64 (a1 + 1)) then (if (wrap64 (a1 + 1)) < (a0.size:Int) then ((impl_figureValue.f (bt a0 (wrap64 (a1 + 1)))).bind fun bt320=>(if 0 ≤ (wrap64 (a1 + 2)) then (if (wrap64 (a1 + 2)) < (a0.size:Int) then ((impl_figureValue.f (bt a0 (wrap64 (a1 + 2)))).bind fun bt322=>(if bt320.2 = true then (if bt322.2 = true then (some ((wrap64 ((wrap64 (bt320.1 * 16)) + bt322.1)) % 256,true)) else (some (0,false))) else (some (0,false)))) else (none)) else (none))) else (none)) else (none))
theorem impl_signByte.calls (a0:ByteArray) (a1:Int) (r1:Int) (r2:Bool) (w:World) (h:impl_signByte.f a0 a1 = some (r1,r2)) :
  Calls Tryd.prog 68 #[.string a0, .int .i64 a1] w fun e w'=>e = .returned (.tuple #[.int .u8 r1, .bool r2]) ∧ Below w.heap.size w w':=by
 have HB:=Aside0.mk (Below.refl w.heap.size w)
 have H:(if (wrap64 ((a0.size:Int) - a1)) < 3 then (some (0,false)) else (if 0 ≤ (wrap64 (a1 + 1)) then (if (wrap64 (a1 + 1)) < (a0.size:Int) then ((impl_figureValue.f (bt a0 (wrap64 (a1 + 1)))).bind fun bt320=>(if 0 ≤ (wrap64 (a1 + 2)) then (if (wrap64 (a1 + 2)) < (a0.size:Int) then ((impl_figureValue.f (bt a0 (wrap64 (a1 + 2)))).bind fun bt322=>(if bt320.2 = true then (if bt322.2 = true then (some ((wrap64 ((wrap64 (bt320.1 * 16)) + bt322.1)) % 256,true)) else (some (0,false))) else (some (0,false)))) else (none)) else (none))) else (none)) else (none))) = some (r1,r2):=h
 clear h
 by_cases c3:(wrap64 ((a0.size:Int) - a1)) < 3
 ·rw [if_pos c3] at H
  have c3b0:decide ((wrap64 ((a0.size:Int) - a1)) < 3) = true:=decide_eq_true c3
  clear c3
  simp only [Option.some.injEq,Prod.mk.injEq] at H
  obtain ⟨rfl,rfl⟩:=H
  go_enter Tryd.func68,Tryd.ntmps68
  go_wp2
  go_ret2
  exact ⟨by first|rfl|(simp <;> rfl)|(simp [*] <;> rfl),by repeat (first|(with_reducible first|exact HB.out|apply below_alloc|apply pw_below_drewN|apply below_drew1)|exact HB.out)⟩
 ·rw [if_neg c3] at H
  have c3b0:decide ((wrap64 ((a0.size:Int) - a1)) < 3) = false:=decide_eq_false c3
  clear c3
  obtain ⟨ji4,hji4⟩:∃ j_:Int,(wrap64 (a1 + 1)) = j_:=⟨_,rfl⟩
  replace H:(if 0 ≤ (ji4) then (if (ji4) < (a0.size:Int) then ((impl_figureValue.f (bt a0 (ji4))).bind fun bt320=>(if 0 ≤ (wrap64 (a1 + 2)) then (if (wrap64 (a1 + 2)) < (a0.size:Int) then ((impl_figureValue.f (bt a0 (wrap64 (a1 + 2)))).bind fun bt322=>(if bt320.2 = true then (if bt322.2 = true then (some ((wrap64 ((wrap64 (bt320.1 * 16)) + bt322.1)) % 256,true)) else (some (0,false))) else (some (0,false)))) else (none)) else (none))) else (none)) else (none)) = some (r1,r2):=by first|(rw [hji4] at H;exact H)|(simp only [hji4] at H ⊢;exact H)
  have hji4w:(IntKind.i64.wrap (a1 + 1)) = ji4:=(i64_w _).trans hji4
  by_cases c5:0 ≤ (ji4)
  ·rw [if_pos c5] at H
   have c5b0:decide (0 ≤ (ji4)) = true:=decide_eq_true c5
   clear c5
   by_cases c6:(ji4) < (a0.size:Int)
   ·rw [if_pos c6] at H
    have c6b0:decide ((ji4) < (a0.size:Int)) = true:=decide_eq_true c6
    clear c6
    replace H:=Option.bind_eq_some_iff.mp H
    obtain ⟨⟨t320,t321⟩,A80,H⟩:=H
    replace H:(if 0 ≤ (wrap64 (a1 + 2)) then (if (wrap64 (a1 + 2)) < (a0.size:Int) then ((impl_figureValue.f (bt a0 (wrap64 (a1 + 2)))).bind fun bt322=>(if t321 = true then (if bt322.2 = true then (some ((wrap64 ((wrap64 (t320 * 16)) + bt322.1)) % 256,true)) else (some (0,false))) else (some (0,false)))) else (none)) else (none)) = some (r1,r2):=H
    have A8:=Aside0.mk A80
    clear A80
    obtain ⟨ji9,hji9⟩:∃ j_:Int,(wrap64 (a1 + 2)) = j_:=⟨_,rfl⟩
    replace H:(if 0 ≤ (ji9) then (if (ji9) < (a0.size:Int) then ((impl_figureValue.f (bt a0 (ji9))).bind fun bt322=>(if t321 = true then (if bt322.2 = true then (some ((wrap64 ((wrap64 (t320 * 16)) + bt322.1)) % 256,true)) else (some (0,false))) else (some (0,false)))) else (none)) else (none)) = some (r1,r2):=by first|(rw [hji9] at H;exact H)|(simp only [hji9] at H ⊢;exact H)
    (try rw [hji9] at A8)
    have hji9w:(IntKind.i64.wrap (a1 + 2)) = ji9:=(i64_w _).trans hji9
    by_cases c10:0 ≤ (ji9)
    ·rw [if_pos c10] at H
     have c10b0:decide (0 ≤ (ji9)) = true:=decide_eq_true c10
     clear c10
     by_cases c11:(ji9) < (a0.size:Int)
     ·rw [if_pos c11] at H
      have c11b0:decide ((ji9) < (a0.size:Int)) = true:=decide_eq_true c11
      clear c11
      replace H:=Option.bind_eq_some_iff.mp H
      obtain ⟨⟨t322,t323⟩,A130,H⟩:=H
      replace H:(if t321 = true then (if t323 = true then (some ((wrap64 ((wrap64 (t320 * 16)) + t322)) % 256,true)) else (some (0,false))) else (some (0,false))) = some (r1,r2):=H
      have A13:=Aside0.mk A130
      clear A130
      by_cases c14:t321 = true
      ·subst c14
       have H1:(if t323 = true then (some ((wrap64 ((wrap64 (t320 * 16)) + t322)) % 256,true)) else (some (0,false))) = some (r1,r2):=by rw [if_pos rfl] at H;exact H
       clear H
       have H:=H1
       clear H1
       by_cases c15:t323 = true
       ·subst c15
        have H1:(some ((wrap64 ((wrap64 (t320 * 16)) + t322)) % 256,true)) = some (r1,r2):=by rw [if_pos rfl] at H;exact H
        clear H
        have H:=H1
        clear H1
        simp only [Option.some.injEq,Prod.mk.injEq] at H
        obtain ⟨rfl,rfl⟩:=H
        have p7:0 ≤ ((ji4):Int):=of_decide_eq_true (by first|(with_reducible assumption)|assumption)
        have q7:(ji4) < (a0.size:Int):=of_decide_eq_true (by first|(with_reducible assumption)|assumption)
        have hx7:=bt_at a0 (ji4)
        replace p7:=eq_true p7
        replace q7:=eq_true q7
        go_enter Tryd.func68,Tryd.ntmps68
        go_wp2_with (first|((with_reducible refine gate_callee (f:=84) rfl ?_);refine goesL_ (some 20) rfl rfl Tryd.func84 (by kernel_rfl) rfl #[.int .u8 (bt a0 (ji4))] rfl (by (try simp only [List.map_toArray,List.map_cons,List.map_nil]);first|done|(simp only [hji4];rfl)|rfl|(simp only [Act.eval,Array.getD_eq_getD_getElem?,Option.getD_some, *];done)|(simp [Act.eval,Array.getD_eq_getD_getElem?, *];done)|(simp only [List.length_drop,List.length_take];rfl)) ?_;(with_reducible refine (impl_figureValue.calls (bt a0 (ji4)) t320 true _ A8.out).mono ?_);rintro e w16 ⟨rfl,hb⟩;refine ⟨_,rfl,?_⟩;have n0_:=Aside0.mk (below_step (by repeat (first|(with_reducible first|exact HB.out|apply below_alloc|apply pw_below_drewN|apply below_drew1)|exact HB.out)) hb);clear HB;have HB:=n0_;clear n0_;(try clear hb);(try clear hb2);(try clear hk);(try clear hi);have p12:0 ≤ ((ji9):Int):=of_decide_eq_true (by first|(with_reducible assumption)|assumption);have q12:(ji9) < (a0.size:Int):=of_decide_eq_true (by first|(with_reducible assumption)|assumption);have hx12:=bt_at a0 (ji9);replace p12:=eq_true p12;replace q12:=eq_true q12)|((with_reducible refine gate_callee (f:=84) rfl ?_);refine goesL_ (some 28) rfl rfl Tryd.func84 (by kernel_rfl) rfl #[.int .u8 (bt a0 (ji9))] rfl (by (try simp only [List.map_toArray,List.map_cons,List.map_nil]);first|done|(simp only [hji9];rfl)|rfl|(simp only [Act.eval,Array.getD_eq_getD_getElem?,Option.getD_some, *];done)|(simp [Act.eval,Array.getD_eq_getD_getElem?, *];done)|(simp only [List.length_drop,List.length_take];rfl)) ?_;(with_reducible refine (impl_figureValue.calls (bt a0 (ji9)) t322 true _ A13.out).mono ?_);rintro e w17 ⟨rfl,hb⟩;refine ⟨_,rfl,?_⟩;have n0_:=Aside0.mk (below_step (by repeat (first|(with_reducible first|exact HB.out|apply below_alloc|apply pw_below_drewN|apply below_drew1)|exact HB.out)) hb);clear HB;have HB:=n0_;clear n0_;(try clear hb);(try clear hb2);(try clear hk);(try clear hi)))
        go_ret2
        exact ⟨by first|rfl|(simp <;> rfl)|(simp only [← hji4,← hji9];first|rfl|(simp <;> rfl))|(simp [*] <;> rfl),by repeat (first|(with_reducible first|exact HB.out|apply below_alloc|apply pw_below_drewN|apply below_drew1)|exact HB.out)⟩
       ·replace c15:=Bool.eq_false_iff.mpr c15
        subst c15
        have H1:(some (0,false)) = some (r1,r2):=by rw [if_neg (show ¬ (false = true) by decide)] at H;exact H
        clear H
        have H:=H1
        clear H1
        simp only [Option.some.injEq,Prod.mk.injEq] at H
        obtain ⟨rfl,rfl⟩:=H
        have p7:0 ≤ ((ji4):Int):=of_decide_eq_true (by first|(with_reducible assumption)|assumption)
        have q7:(ji4) < (a0.size:Int):=of_decide_eq_true (by first|(with_reducible assumption)|assumption)
        have hx7:=bt_at a0 (ji4)
        replace p7:=eq_true p7
        replace q7:=eq_true q7
        go_enter Tryd.func68,Tryd.ntmps68
        go_wp2_with (first|((with_reducible refine gate_callee (f:=84) rfl ?_);refine goesL_ (some 20) rfl rfl Tryd.func84 (by kernel_rfl) rfl #[.int .u8 (bt a0 (ji4))] rfl (by (try simp only [List.map_toArray,List.map_cons,List.map_nil]);first|done|(simp only [hji4];rfl)|rfl|(simp only [Act.eval,Array.getD_eq_getD_getElem?,Option.getD_some, *];done)|(simp [Act.eval,Array.getD_eq_getD_getElem?, *];done)|(simp only [List.length_drop,List.length_take];rfl)) ?_;(with_reducible refine (impl_figureValue.calls (bt a0 (ji4)) t320 true _ A8.out).mono ?_);rintro e w18 ⟨rfl,hb⟩;refine ⟨_,rfl,?_⟩;have n0_:=Aside0.mk (below_step (by repeat (first|(with_reducible first|exact HB.out|apply below_alloc|apply pw_below_drewN|apply below_drew1)|exact HB.out)) hb);clear HB;have HB:=n0_;clear n0_;(try clear hb);(try clear hb2);(try clear hk);(try clear hi);have p12:0 ≤ ((ji9):Int):=of_decide_eq_true (by first|(with_reducible assumption)|assumption);have q12:(ji9) < (a0.size:Int):=of_decide_eq_true (by first|(with_reducible assumption)|assumption);have hx12:=bt_at a0 (ji9);replace p12:=eq_true p12;replace q12:=eq_true q12)|((with_reducible refine gate_callee (f:=84) rfl ?_);refine goesL_ (some 28) rfl rfl Tryd.func84 (by kernel_rfl) rfl #[.int .u8 (bt a0 (ji9))] rfl (by (try simp only [List.map_toArray,List.map_cons,List.map_nil]);first|done|(simp only [hji9];rfl)|rfl|(simp only [Act.eval,Array.getD_eq_getD_getElem?,Option.getD_some, *];done)|(simp [Act.eval,Array.getD_eq_getD_getElem?, *];done)|(simp only [List.length_drop,List.length_take];rfl)) ?_;(with_reducible refine (impl_figureValue.calls (bt a0 (ji9)) t322 false _ A13.out).mono ?_);rintro e w19 ⟨rfl,hb⟩;refine ⟨_,rfl,?_⟩;have n0_:=Aside0.mk (below_step (by repeat (first|(with_reducible first|exact HB.out|apply below_alloc|apply pw_below_drewN|apply below_drew1)|exact HB.out)) hb);clear HB;have HB:=n0_;clear n0_;(try clear hb);(try clear hb2);(try clear hk);(try clear hi)))
        go_ret2
        exact ⟨by first|rfl|(simp <;> rfl)|(simp only [← hji4,← hji9];first|rfl|(simp <;> rfl))|(simp [*] <;> rfl),by repeat (first|(with_reducible first|exact HB.out|apply below_alloc|apply pw_below_drewN|apply below_drew1)|exact HB.out)⟩
      ·replace c14:=Bool.eq_false_iff.mpr c14
       subst c14
       have H1:(some (0,false)) = some (r1,r2):=by rw [if_neg (show ¬ (false = true) by decide)] at H;exact H
       clear H
       have H:=H1
       clear H1
       simp only [Option.some.injEq,Prod.mk.injEq] at H
       obtain ⟨rfl,rfl⟩:=H
       have p7:0 ≤ ((ji4):Int):=of_decide_eq_true (by first|(with_reducible assumption)|assumption)
       have q7:(ji4) < (a0.size:Int):=of_decide_eq_true (by first|(with_reducible assumption)|assumption)
       have hx7:=bt_at a0 (ji4)
       replace p7:=eq_true p7
       replace q7:=eq_true q7
       go_enter Tryd.func68,Tryd.ntmps68
       go_wp2_with (first|((with_reducible refine gate_callee (f:=84) rfl ?_);refine goesL_ (some 20) rfl rfl Tryd.func84 (by kernel_rfl) rfl #[.int .u8 (bt a0 (ji4))] rfl (by (try simp only [List.map_toArray,List.map_cons,List.map_nil]);first|done|(simp only [hji4];rfl)|rfl|(simp only [Act.eval,Array.getD_eq_getD_getElem?,Option.getD_some, *];done)|(simp [Act.eval,Array.getD_eq_getD_getElem?, *];done)|(simp only [List.length_drop,List.length_take];rfl)) ?_;(with_reducible refine (impl_figureValue.calls (bt a0 (ji4)) t320 false _ A8.out).mono ?_);rintro e w20 ⟨rfl,hb⟩;refine ⟨_,rfl,?_⟩;have n0_:=Aside0.mk (below_step (by repeat (first|(with_reducible first|exact HB.out|apply below_alloc|apply pw_below_drewN|apply below_drew1)|exact HB.out)) hb);clear HB;have HB:=n0_;clear n0_;(try clear hb);(try clear hb2);(try clear hk);(try clear hi);have p12:0 ≤ ((ji9):Int):=of_decide_eq_true (by first|(with_reducible assumption)|assumption);have q12:(ji9) < (a0.size:Int):=of_decide_eq_true (by first|(with_reducible assumption)|assumption);have hx12:=bt_at a0 (ji9);replace p12:=eq_true p12;replace q12:=eq_true q12)|((with_reducible refine gate_callee (f:=84) rfl ?_);refine goesL_ (some 28) rfl rfl Tryd.func84 (by kernel_rfl) rfl #[.int .u8 (bt a0 (ji9))] rfl (by (try simp only [List.map_toArray,List.map_cons,List.map_nil]);first|done|(simp only [hji9];rfl)|rfl|(simp only [Act.eval,Array.getD_eq_getD_getElem?,Option.getD_some, *];done)|(simp [Act.eval,Array.getD_eq_getD_getElem?, *];done)|(simp only [List.length_drop,List.length_take];rfl)) ?_;(with_reducible refine (impl_figureValue.calls (bt a0 (ji9)) t322 t323 _ A13.out).mono ?_);rintro e w21 ⟨rfl,hb⟩;refine ⟨_,rfl,?_⟩;have n0_:=Aside0.mk (below_step (by repeat (first|(with_reducible first|exact HB.out|apply below_alloc|apply pw_below_drewN|apply below_drew1)|exact HB.out)) hb);clear HB;have HB:=n0_;clear n0_;(try clear hb);(try clear hb2);(try clear hk);(try clear hi)))
       go_ret2
       exact ⟨by first|rfl|(simp <;> rfl)|(simp only [← hji4,← hji9];first|rfl|(simp <;> rfl))|(simp [*] <;> rfl),by repeat (first|(with_reducible first|exact HB.out|apply below_alloc|apply pw_below_drewN|apply below_drew1)|exact HB.out)⟩
     ·rw [if_neg c11] at H
      exact absurd H (by simp)
    ·rw [if_neg c10] at H
     exact absurd H (by simp)
   ·rw [if_neg c6] at H
    exact absurd H (by simp)
  ·rw [if_neg c5] at H
   exact absurd H (by simp)

def impl_standsForItself.f (a0:Int):Option (Bool):=if a0 ≥ 97 then (if a0 ≤ 122 then (some true) else (if a0 ≥ 48 then (if a0 ≤ 57 then (some true) else (if a0 = 46 then (some true) else (some (a0 == 45)))) else (if a0 = 46 then (some true) else (some (a0 == 45))))) else (if a0 ≥ 48 then (if a0 ≤ 57 then (some true) else (if a0 = 46 then (some true) else (some (a0 == 45)))) else (if a0 = 46 then (some true) else (some (a0 == 45))))
theorem impl_standsForItself.calls (a0:Int) (r:Bool) (w:World) (h:impl_standsForItself.f a0 = some r) :
  Calls Tryd.prog 69 #[.int .u8 a0] w fun e w'=>e = .returned (.bool r) ∧ Drawn0 w w':=by
 have H:(if a0 ≥ 97 then (if a0 ≤ 122 then (some true) else (if a0 ≥ 48 then (if a0 ≤ 57 then (some true) else (if a0 = 46 then (some true) else (some (a0 == 45)))) else (if a0 = 46 then (some true) else (some (a0 == 45))))) else (if a0 ≥ 48 then (if a0 ≤ 57 then (some true) else (if a0 = 46 then (some true) else (some (a0 == 45)))) else (if a0 = 46 then (some true) else (some (a0 == 45))))) = some r:=h
 clear h
 by_cases c2:a0 ≥ 97
 ·rw [if_pos c2] at H
  have c2b0:decide (97 ≤ a0) = true:=decide_eq_true c2
  clear c2
  by_cases c3:a0 ≤ 122
  ·rw [if_pos c3] at H
   have c3b0:decide (a0 ≤ 122) = true:=decide_eq_true c3
   clear c3
   obtain rfl:=Option.some.inj H
   go_enter Tryd.func69,Tryd.ntmps69
   go_wp2
   go_ret
   exact ⟨by first|rfl|(simp;done)|(simp only [i64_w,i32_w];done)|(simp only [i64_w,i32_w];rfl)|(simp [*];done)|(simp [emp_bne,emp_beq];done),by repeat (first|exact Drawn0.refl _|apply Drawn0.step)⟩
  ·rw [if_neg c3] at H
   have c3b0:decide (a0 ≤ 122) = false:=decide_eq_false c3
   clear c3
   by_cases c4:a0 ≥ 48
   ·rw [if_pos c4] at H
    have c4b0:decide (48 ≤ a0) = true:=decide_eq_true c4
    clear c4
    by_cases c5:a0 ≤ 57
    ·rw [if_pos c5] at H
     have c5b0:decide (a0 ≤ 57) = true:=decide_eq_true c5
     clear c5
     obtain rfl:=Option.some.inj H
     go_enter Tryd.func69,Tryd.ntmps69
     go_wp2
     go_ret
     exact ⟨by first|rfl|(simp;done)|(simp only [i64_w,i32_w];done)|(simp only [i64_w,i32_w];rfl)|(simp [*];done)|(simp [emp_bne,emp_beq];done),by repeat (first|exact Drawn0.refl _|apply Drawn0.step)⟩
    ·rw [if_neg c5] at H
     have c5b0:decide (a0 ≤ 57) = false:=decide_eq_false c5
     clear c5
     by_cases c6:a0 = 46
     ·rw [if_pos c6] at H
      have c6b0:(a0 == 46) = true:=beq_iff_eq.mpr c6
      have c6b1:(a0 != 46) = false:=bne_eq_false_iff_eq.mpr c6
      clear c6
      obtain rfl:=Option.some.inj H
      go_enter Tryd.func69,Tryd.ntmps69
      go_wp2
      go_ret
      exact ⟨by first|rfl|(simp;done)|(simp only [i64_w,i32_w];done)|(simp only [i64_w,i32_w];rfl)|(simp [*];done)|(simp [emp_bne,emp_beq];done),by repeat (first|exact Drawn0.refl _|apply Drawn0.step)⟩
     ·rw [if_neg c6] at H
      have c6b0:(a0 == 46) = false:=beq_eq_false_iff_ne.mpr c6
      have c6b1:(a0 != 46) = true:=bne_iff_ne.mpr c6
      obtain rfl:=Option.some.inj H
      go_enter Tryd.func69,Tryd.ntmps69
      go_wp2
      go_ret
      exact ⟨by first|rfl|(simp;done)|(simp only [i64_w,i32_w];done)|(simp only [i64_w,i32_w];rfl)|(simp [*];done)|(simp [emp_bne,emp_beq];done),by repeat (first|exact Drawn0.refl _|apply Drawn0.step)⟩
   ·rw [if_neg c4] at H
    have c4b0:decide (48 ≤ a0) = false:=decide_eq_false c4
    clear c4
    by_cases c7:a0 = 46
    ·rw [if_pos c7] at H
     have c7b0:(a0 == 46) = true:=beq_iff_eq.mpr c7
     have c7b1:(a0 != 46) = false:=bne_eq_false_iff_eq.mpr c7
     clear c7
     obtain rfl:=Option.some.inj H
     go_enter Tryd.func69,Tryd.ntmps69
     go_wp2
     go_ret
     exact ⟨by first|rfl|(simp;done)|(simp only [i64_w,i32_w];done)|(simp only [i64_w,i32_w];rfl)|(simp [*];done)|(simp [emp_bne,emp_beq];done),by repeat (first|exact Drawn0.refl _|apply Drawn0.step)⟩
    ·rw [if_neg c7] at H
     have c7b0:(a0 == 46) = false:=beq_eq_false_iff_ne.mpr c7
     have c7b1:(a0 != 46) = true:=bne_iff_ne.mpr c7
     obtain rfl:=Option.some.inj H
     go_enter Tryd.func69,Tryd.ntmps69
     go_wp2
     go_ret
     exact ⟨by first|rfl|(simp;done)|(simp only [i64_w,i32_w];done)|(simp only [i64_w,i32_w];rfl)|(simp [*];done)|(simp [emp_bne,emp_beq];done),by repeat (first|exact Drawn0.refl _|apply Drawn0.step)⟩
 ·rw [if_neg c2] at H
  have c2b0:decide (97 ≤ a0) = false:=decide_eq_false c2
  clear c2
  by_cases c8:a0 ≥ 48
  ·rw [if_pos c8] at H
   have c8b0:decide (48 ≤ a0) = true:=decide_eq_true c8
   clear c8
   by_cases c9:a0 ≤ 57
   ·rw [if_pos c9] at H
    have c9b0:decide (a0 ≤ 57) = true:=decide_eq_true c9
    clear c9
    obtain rfl:=Option.some.inj H
    go_enter Tryd.func69,Tryd.ntmps69
    go_wp2
    go_ret
    exact ⟨by first|rfl|(simp;done)|(simp only [i64_w,i32_w];done)|(simp only [i64_w,i32_w];rfl)|(simp [*];done)|(simp [emp_bne,emp_beq];done),by repeat (first|exact Drawn0.refl _|apply Drawn0.step)⟩
   ·rw [if_neg c9] at H
    have c9b0:decide (a0 ≤ 57) = false:=decide_eq_false c9
    clear c9
    by_cases c10:a0 = 46
    ·rw [if_pos c10] at H
     have c10b0:(a0 == 46) = true:=beq_iff_eq.mpr c10
     have c10b1:(a0 != 46) = false:=bne_eq_false_iff_eq.mpr c10
     clear c10
     obtain rfl:=Option.some.inj H
     go_enter Tryd.func69,Tryd.ntmps69
     go_wp2
     go_ret
     exact ⟨by first|rfl|(simp;done)|(simp only [i64_w,i32_w];done)|(simp only [i64_w,i32_w];rfl)|(simp [*];done)|(simp [emp_bne,emp_beq];done),by repeat (first|exact Drawn0.refl _|apply Drawn0.step)⟩
    ·rw [if_neg c10] at H
     have c10b0:(a0 == 46) = false:=beq_eq_false_iff_ne.mpr c10
     have c10b1:(a0 != 46) = true:=bne_iff_ne.mpr c10
     obtain rfl:=Option.some.inj H
     go_enter Tryd.func69,Tryd.ntmps69
     go_wp2
     go_ret
     exact ⟨by first|rfl|(simp;done)|(simp only [i64_w,i32_w];done)|(simp only [i64_w,i32_w];rfl)|(simp [*];done)|(simp [emp_bne,emp_beq];done),by repeat (first|exact Drawn0.refl _|apply Drawn0.step)⟩
  ·rw [if_neg c8] at H
   have c8b0:decide (48 ≤ a0) = false:=decide_eq_false c8
   clear c8
   by_cases c11:a0 = 46
   ·rw [if_pos c11] at H
    have c11b0:(a0 == 46) = true:=beq_iff_eq.mpr c11
    have c11b1:(a0 != 46) = false:=bne_eq_false_iff_eq.mpr c11
    clear c11
    obtain rfl:=Option.some.inj H
    go_enter Tryd.func69,Tryd.ntmps69
    go_wp2
    go_ret
    exact ⟨by first|rfl|(simp;done)|(simp only [i64_w,i32_w];done)|(simp only [i64_w,i32_w];rfl)|(simp [*];done)|(simp [emp_bne,emp_beq];done),by repeat (first|exact Drawn0.refl _|apply Drawn0.step)⟩
   ·rw [if_neg c11] at H
    have c11b0:(a0 == 46) = false:=beq_eq_false_iff_ne.mpr c11
    have c11b1:(a0 != 46) = true:=bne_iff_ne.mpr c11
    obtain rfl:=Option.some.inj H
    go_enter Tryd.func69,Tryd.ntmps69
    go_wp2
    go_ret
    exact ⟨by first|rfl|(simp;done)|(simp only [i64_w,i32_w];done)|(simp only [i64_w,i32_w];rfl)|(simp [*];done)|(simp [emp_bne,emp_beq];done),by repeat (first|exact Drawn0.refl _|apply Drawn0.step)⟩

def impl_EscNorm.l0:Nat → ByteArray → List Int → Int → Option (ByteArray × Bool)
 | 0,_,_,_=>none
 | k + 1,x0,x4,x5=>if x5 < (x0.size:Int) then (if 0 ≤ x5 then (if (bt x0 x5) = 37 then ((impl_signByte.f x0 x5).bind fun bt324=>(if bt324.2 = true then ((impl_standsForItself.f bt324.1).bind fun t326=>(if t326 = true then (if x4.length < 140737488355328 then (impl_EscNorm.l0 k x0 (x4 ++ [bt324.1]) (wrap64 ((wrap64 (x5 + 2)) + 1))) else (none)) else (if 0 ≤ (bt324.1 / 16) then (if (bt324.1 / 16) < 16 then (if 0 ≤ (Go.bits .and .u8 bt324.1 15) then (if (Go.bits .and .u8 bt324.1 15) < 16 then ((some (([37,bt (⟨#[48,49,50,51,52,53,54,55,56,57,65,66,67,68,69,70]⟩:ByteArray) (bt324.1 / 16),bt (⟨#[48,49,50,51,52,53,54,55,56,57,65,66,67,68,69,70]⟩:ByteArray) (Go.bits .and .u8 bt324.1 15)]:List Int):List Int)).bind fun y330=>(if x4.length + y330.length < 140737488355328 then (impl_EscNorm.l0 k x0 (x4 ++ y330) (wrap64 ((wrap64 (x5 + 2)) + 1))) else (none))) else (none)) else (none)) else (none)) else (none)))) else (some ((⟨#[]⟩:ByteArray),false)))) else ((impl_standsForItself.f (bt x0 x5)).bind fun t336=>(if t336 = true then (if x4.length < 140737488355328 then (impl_EscNorm.l0 k x0 (x4 ++ [bt x0 x5]) (wrap64 (x5 + 1))) else (none)) else (if 0 ≤ ((bt x0 x5) / 16) then (if ((bt x0 x5) / 16) < 16 then (if 0 ≤ (Go.bits .and .u8 (bt x0 x5) 15) then (if (Go.bits .and .u8 (bt x0 x5) 15) < 16 then ((some (([37,bt (⟨#[48,49,50,51,52,53,54,55,56,57,65,66,67,68,69,70]⟩:ByteArray) ((bt x0 x5) / 16),bt (⟨#[48,49,50,51,52,53,54,55,56,57,65,66,67,68,69,70]⟩:ByteArray) (Go.bits .and .u8 (bt x0 x5) 15)]:List Int):List Int)).bind fun y340=>(if x4.length + y340.length < 140737488355328 then (impl_EscNorm.l0 k x0 (x4 ++ y340) (wrap64 (x5 + 1))) else (none))) else (none)) else (none)) else (none)) else (none))))) else (none)) else (some (strOfNums x4,true))
def impl_EscNorm.f (k:Nat) (a0:ByteArray):Option (ByteArray × Bool):=if (a0.size:Int) > 60 then (some ((⟨#[]⟩:ByteArray),false)) else (impl_EscNorm.l0 k a0 ([]:List Int) 0)
theorem impl_EscNorm.mono_l:∀ k,(∀ y0 y1 y2,LeO (impl_EscNorm.l0 k y0 y1 y2) (impl_EscNorm.l0 (k + 1) y0 y1 y2))
 | 0=>fun _ _ _ r h=>by simp [impl_EscNorm.l0] at h
 | k + 1=>by
  have ih0:=impl_EscNorm.mono_l k
  ·intro y0 y1 y2
   unfold impl_EscNorm.l0
   repeat' first
   | (with_reducible exact ih0 _ _ _)
   | (with_reducible exact LeO.refl _)
   | (with_reducible exact LeO.none _)
   | (with_reducible refine LeO.ite ?_ ?_)
   | (with_reducible refine LeO.bind ?_ (fun _=>?_))
   | exact ih0 _ _ _
   | exact LeO.none _
   | refine LeO.ite ?_ ?_
   | refine LeO.bind ?_ (fun _=>?_)
theorem impl_EscNorm.mono:∀ a0 k,LeO (impl_EscNorm.f k a0) (impl_EscNorm.f (k + 1) a0):=by
 intro a0 k
 have ih0:=impl_EscNorm.mono_l k
 unfold impl_EscNorm.f
 repeat' first
   | (with_reducible exact ih0 _ _ _)
   | (with_reducible exact LeO.refl _)
   | (with_reducible exact LeO.none _)
   | (with_reducible refine LeO.ite ?_ ?_)
   | (with_reducible refine LeO.bind ?_ (fun _=>?_))
   | exact ih0 _ _ _
   | exact LeO.none _
   | refine LeO.ite ?_ ?_
   | refine LeO.bind ?_ (fun _=>?_)
def impl_EscNorm.T16:Bool × List (List Nat × List Nat):=(true,[([],[]),([],[]),([1],[1]),([2],[2]),([],[]),([4],[4]),([5],[5]),([3,6],[3,6]),([0,7],[0,7]),([8,8,0,1,2,3,4,5,6,7,8],[0,8])])
def impl_EscNorm.B16:List Nat:=[0,0,2,6,0,16,48,126,255,511]
theorem impl_EscNorm.tab16:rtab .any (opsOf Tryd.f52 16) = impl_EscNorm.T16:=by kernel_rfl
theorem impl_EscNorm.bits16:waitsOk impl_EscNorm.T16.2 impl_EscNorm.B16 = true:=by kernel_rfl
theorem impl_EscNorm.calls (k:Nat) (a0:ByteArray) (r1:ByteArray) (r2:Bool) (w:World) (h:impl_EscNorm.f k a0 = some (r1,r2)) :
  Calls Tryd.prog 52 #[.string a0] w fun e w'=>e = .returned (.tuple #[.string r1, .bool r2]) ∧ Below w.heap.size w w':=by
 have HB:=Aside0.mk (Below.refl w.heap.size w)
 have H:(if (a0.size:Int) > 60 then (some ((⟨#[]⟩:ByteArray),false)) else (impl_EscNorm.l0 k a0 ([]:List Int) 0)) = some (r1,r2):=h
 clear h
 by_cases c2:(a0.size:Int) > 60
 ·rw [if_pos c2] at H
  have c2b0:decide (60 < (a0.size:Int)) = true:=decide_eq_true c2
  have c2b1:decide (60 < a0.size) = true:=decide_eq_true (by omega)
  clear c2
  simp only [Option.some.injEq,Prod.mk.injEq] at H
  obtain ⟨rfl,rfl⟩:=H
  go_enter Tryd.func52,Tryd.ntmps52
  go_wp2
  go_ret2
  exact ⟨by first|rfl|(simp <;> rfl)|(simp [*] <;> rfl),by repeat (first|(with_reducible first|exact HB.out|apply below_alloc|apply pw_below_drewN|apply below_drew1)|exact HB.out)⟩
 ·rw [if_neg c2] at H
  have c2b0:decide (60 < (a0.size:Int)) = false:=decide_eq_false c2
  have c2b1:decide (60 < a0.size) = false:=decide_eq_false (by omega)
  clear c2
  have H':=Aside0.mk H
  clear H
  go_enter Tryd.func52,Tryd.ntmps52
  go_wp2
  go_loopg [4,5] k (fun kq v4 v5 w'=>∃ (x4_1:List Int) (x5_1:Int),v5 = .int .i64 x5_1 ∧ Aside0 (impl_EscNorm.l0 kq a0 x4_1 x5_1 = some (r1,r2)) ∧ Aside0 (kq ≤ k) ∧ Aside0 (Kd.R (Kd.int .u8) 5 w' w.heap.size (fun _=>True) v4 x4_1) ∧ Aside0 (Below w.heap.size w w'))
  case atStart=>exact ⟨(([]:List Int)),(0),(by first|rfl|(simp;done)|(simp only [i64_w,i32_w];done)|(simp only [i64_w,i32_w];rfl)|(simp [*];done)|(simp [emp_bne,emp_beq];done)),H',⟨Nat.le_refl _⟩,⟨by first|exact Kd.R_nil _ _ _ _ _|exact Kd.N_nil _ _ _ _ _|exact Kd.V_nil _ _ _ _ _|exact Kd.Q_nil _ _ _ _ _|exact Kd.S_nil _ _ _ _ _⟩,⟨by repeat (first|(with_reducible first|exact HB.out|apply below_alloc|apply pw_below_drewN|apply below_drew1)|exact HB.out)⟩⟩
  case round =>
   clear H'
   try clear c2
   try clear c2b0
   try clear c2b1
   try clear p2
   obtain ⟨x4_1,x5_1,rfl,HA,HK1,HO_4,HB⟩:=hrel
   cases gk with
   | zero=>exact absurd HA.out (by simp [impl_EscNorm.l0])
   | succ k1 =>
    have H:=HA.out
    clear HA
    simp only [impl_EscNorm.l0] at H
    by_cases c3:x5_1 < (a0.size:Int)
    ·rw [if_pos c3] at H
     have c3b0:decide (x5_1 < (a0.size:Int)) = true:=decide_eq_true c3
     clear c3
     by_cases c4:0 ≤ x5_1
     ·rw [if_pos c4] at H
      have c4b0:decide (0 ≤ x5_1) = true:=decide_eq_true c4
      clear c4
      by_cases c6:(bt a0 x5_1) = 37
      ·rw [if_pos c6] at H
       have c6b0:((bt a0 x5_1) == 37) = true:=beq_iff_eq.mpr c6
       have c6b1:((bt a0 x5_1) != 37) = false:=bne_eq_false_iff_eq.mpr c6
       clear c6
       replace H:=Option.bind_eq_some_iff.mp H
       obtain ⟨⟨t324,t325⟩,A70,H⟩:=H
       replace H:(if t325 = true then ((impl_standsForItself.f t324).bind fun t326=>(if t326 = true then (if x4_1.length < 140737488355328 then (impl_EscNorm.l0 k1 a0 (x4_1 ++ [t324]) (wrap64 ((wrap64 (x5_1 + 2)) + 1))) else (none)) else (if 0 ≤ (t324 / 16) then (if (t324 / 16) < 16 then (if 0 ≤ (Go.bits .and .u8 t324 15) then (if (Go.bits .and .u8 t324 15) < 16 then ((some (([37,bt (⟨#[48,49,50,51,52,53,54,55,56,57,65,66,67,68,69,70]⟩:ByteArray) (t324 / 16),bt (⟨#[48,49,50,51,52,53,54,55,56,57,65,66,67,68,69,70]⟩:ByteArray) (Go.bits .and .u8 t324 15)]:List Int):List Int)).bind fun y330=>(if x4_1.length + y330.length < 140737488355328 then (impl_EscNorm.l0 k1 a0 (x4_1 ++ y330) (wrap64 ((wrap64 (x5_1 + 2)) + 1))) else (none))) else (none)) else (none)) else (none)) else (none)))) else (some ((⟨#[]⟩:ByteArray),false))) = some (r1,r2):=H
       have A7:=Aside0.mk A70
       clear A70
       by_cases c8:t325 = true
       ·subst c8
        have H1:((impl_standsForItself.f t324).bind fun t326=>(if t326 = true then (if x4_1.length < 140737488355328 then (impl_EscNorm.l0 k1 a0 (x4_1 ++ [t324]) (wrap64 ((wrap64 (x5_1 + 2)) + 1))) else (none)) else (if 0 ≤ (t324 / 16) then (if (t324 / 16) < 16 then (if 0 ≤ (Go.bits .and .u8 t324 15) then (if (Go.bits .and .u8 t324 15) < 16 then ((some (([37,bt (⟨#[48,49,50,51,52,53,54,55,56,57,65,66,67,68,69,70]⟩:ByteArray) (t324 / 16),bt (⟨#[48,49,50,51,52,53,54,55,56,57,65,66,67,68,69,70]⟩:ByteArray) (Go.bits .and .u8 t324 15)]:List Int):List Int)).bind fun y330=>(if x4_1.length + y330.length < 140737488355328 then (impl_EscNorm.l0 k1 a0 (x4_1 ++ y330) (wrap64 ((wrap64 (x5_1 + 2)) + 1))) else (none))) else (none)) else (none)) else (none)) else (none)))) = some (r1,r2):=by rw [if_pos rfl] at H;exact H
        clear H
        have H:=H1
        clear H1
        replace H:=Option.bind_eq_some_iff.mp H
        obtain ⟨t326,A90,H⟩:=H
        replace H:(if t326 = true then (if x4_1.length < 140737488355328 then (impl_EscNorm.l0 k1 a0 (x4_1 ++ [t324]) (wrap64 ((wrap64 (x5_1 + 2)) + 1))) else (none)) else (if 0 ≤ (t324 / 16) then (if (t324 / 16) < 16 then (if 0 ≤ (Go.bits .and .u8 t324 15) then (if (Go.bits .and .u8 t324 15) < 16 then ((some (([37,bt (⟨#[48,49,50,51,52,53,54,55,56,57,65,66,67,68,69,70]⟩:ByteArray) (t324 / 16),bt (⟨#[48,49,50,51,52,53,54,55,56,57,65,66,67,68,69,70]⟩:ByteArray) (Go.bits .and .u8 t324 15)]:List Int):List Int)).bind fun y330=>(if x4_1.length + y330.length < 140737488355328 then (impl_EscNorm.l0 k1 a0 (x4_1 ++ y330) (wrap64 ((wrap64 (x5_1 + 2)) + 1))) else (none))) else (none)) else (none)) else (none)) else (none))) = some (r1,r2):=H
        have A9:=Aside0.mk A90
        clear A90
        by_cases c10:t326 = true
        ·subst c10
         have H1:(if x4_1.length < 140737488355328 then (impl_EscNorm.l0 k1 a0 (x4_1 ++ [t324]) (wrap64 ((wrap64 (x5_1 + 2)) + 1))) else (none)) = some (r1,r2):=by rw [if_pos rfl] at H;exact H
         clear H
         have H:=H1
         clear H1
         by_cases c11:x4_1.length < 140737488355328
         ·rw [if_pos c11] at H
          have LMc11:=Aside0.mk c11
          clear c11
          obtain ⟨y327,hy327⟩:∃ y_:List Int,y_ = (x4_1 ++ [t324]):=⟨_,rfl⟩
          replace H:(impl_EscNorm.l0 k1 a0 y327 (wrap64 ((wrap64 (x5_1 + 2)) + 1))) = some (r1,r2):=by first|(rw [hy327];with_reducible exact H)|(have H2_:=(Option.bind_some _ _).symm.trans H;rw [hy327];with_reducible exact H2_)|(have H2_:=(Option.bind_some _ _).symm.trans H;with_reducible exact H2_)|with_reducible exact H|(rw [hy327];exact H)|exact H
          have Ny327:=Aside0.mk hy327
          clear hy327
          have H':=Aside0.mk H
          clear H
          have p5:0 ≤ (x5_1:Int):=of_decide_eq_true (by first|(with_reducible assumption)|assumption)
          have q5:x5_1 < (a0.size:Int):=of_decide_eq_true (by first|(with_reducible assumption)|assumption)
          have hx5:=bt_at a0 x5_1
          replace p5:=eq_true p5
          replace q5:=eq_true q5
          go_wp2_with (first|((with_reducible refine gate_callee (f:=68) rfl ?_);refine goesL_ (some 26) rfl rfl Tryd.func68 (by kernel_rfl) rfl #[.string a0, .int .i64 x5_1] rfl (by (try simp only [List.map_toArray,List.map_cons,List.map_nil]);first|done|rfl|(simp only [List.length_drop,List.length_take];rfl)) ?_;(with_reducible refine (impl_signByte.calls a0 x5_1 t324 true _ A7.out).mono ?_);rintro e w12 ⟨rfl,hb⟩;refine ⟨_,rfl,?_⟩;have n0_:=Aside0.mk (Kd.R_below (by (with_reducible repeat (first|apply Kd.R_alloc|apply Kd.R_drewN|apply Kd.R_drew));exact HO_4.out) hb);have n1_:=Aside0.mk (below_step (by repeat (first|(with_reducible first|exact HB.out|apply below_alloc|apply pw_below_drewN|apply below_drew1)|exact HB.out)) hb);clear HO_4;clear HB;have HO_4:=n0_;have HB:=n1_;clear n0_ n1_;(try clear hb);(try clear hb2);(try clear hk);(try clear hi))|((with_reducible refine gate_callee (f:=69) rfl ?_);refine goesL_ (some 35) rfl rfl Tryd.func69 (by kernel_rfl) rfl #[.int .u8 t324] rfl (by (try simp only [List.map_toArray,List.map_cons,List.map_nil]);first|done|rfl|(simp only [List.length_drop,List.length_take];rfl)) ?_;(with_reducible refine (impl_standsForItself.calls t324 true _ A9.out).mono ?_);rintro e w' ⟨rfl,⟨nd,rfl⟩⟩;refine ⟨_,rfl,?_⟩)|((with_reducible refine gate_builtin (b:=.append) (xs:=#[.tmp 36, .tmp 38]) rfl ?_);at_builtin;refine Kd.R_append (Kd.int .u8) (w0:=w) w.heap.size rfl (.tmp 36) (.tmp 38) 30 5 (.int .u8 0) 1 rfl Tryd.underlying30 info5 rfl (by decide) (by omega) u4 x4_1 t324 [.int .u8 t324] (fun _=>True) (fun _=>False) rfl rfl ?aP (fun _ hk=>hk.elim) ?aF ?aO ?aB ?aS ?aL ?_;(case aP=>exact rfl);(case aB=>exact (by repeat (first|(with_reducible first|exact HB.out|apply below_alloc|apply pw_below_drewN|apply below_drew1)|exact HB.out)));(case aF=>exact (fun _ _=>trivial));(case aO=>exact (by (with_reducible repeat (first|apply Kd.R_alloc|apply Kd.R_drewN|apply Kd.R_drew));exact HO_4.out));(case aS=>exact (below_size (by repeat (first|(with_reducible first|exact HB.out|apply below_alloc|apply pw_below_drewN|apply below_drew1)|exact HB.out))));(case aL=>have:=LMc11.out;omega);intro v328 w13 ho hb hg hat;rw [← Ny327.out] at ho;have n0_:=Aside0.mk (hb);have n1_:=Aside0.mk (ho);clear HB;clear HO_4;have HB:=n0_;have HO329:=n1_;clear n0_ n1_;clear ho hb hg hat))
          go_roundg k1
          case measure=>have:=HK1.out;omega
          case rel=>exact ⟨(y327),(wrap64 ((wrap64 (x5_1 + 2)) + 1)),(by first|rfl|(simp;done)|(simp only [i64_w,i32_w];done)|(simp only [i64_w,i32_w];rfl)|(simp [*];done)|(simp [emp_bne,emp_beq];done)),H',⟨by have:=HK1.out;omega⟩,⟨by (with_reducible repeat (first|apply Kd.R_alloc|apply Kd.R_drewN|apply Kd.R_drew));exact HO329.out⟩,⟨by repeat (first|(with_reducible first|exact HB.out|apply below_alloc|apply pw_below_drewN|apply below_drew1)|exact HB.out)⟩⟩
         ·rw [if_neg c11] at H
          exact absurd H (by simp)
        ·replace c10:=Bool.eq_false_iff.mpr c10
         subst c10
         have H1:(if 0 ≤ (t324 / 16) then (if (t324 / 16) < 16 then (if 0 ≤ (Go.bits .and .u8 t324 15) then (if (Go.bits .and .u8 t324 15) < 16 then ((some (([37,bt (⟨#[48,49,50,51,52,53,54,55,56,57,65,66,67,68,69,70]⟩:ByteArray) (t324 / 16),bt (⟨#[48,49,50,51,52,53,54,55,56,57,65,66,67,68,69,70]⟩:ByteArray) (Go.bits .and .u8 t324 15)]:List Int):List Int)).bind fun y330=>(if x4_1.length + y330.length < 140737488355328 then (impl_EscNorm.l0 k1 a0 (x4_1 ++ y330) (wrap64 ((wrap64 (x5_1 + 2)) + 1))) else (none))) else (none)) else (none)) else (none)) else (none)) = some (r1,r2):=by rw [if_neg (show ¬ (false = true) by decide)] at H;exact H
         clear H
         have H:=H1
         clear H1
         obtain ⟨ji14,hji14⟩:∃ j_:Int,(t324 / 16) = j_:=⟨_,rfl⟩
         replace H:(if 0 ≤ (ji14) then (if (ji14) < 16 then (if 0 ≤ (Go.bits .and .u8 t324 15) then (if (Go.bits .and .u8 t324 15) < 16 then ((some (([37,bt (⟨#[48,49,50,51,52,53,54,55,56,57,65,66,67,68,69,70]⟩:ByteArray) (ji14),bt (⟨#[48,49,50,51,52,53,54,55,56,57,65,66,67,68,69,70]⟩:ByteArray) (Go.bits .and .u8 t324 15)]:List Int):List Int)).bind fun y330=>(if x4_1.length + y330.length < 140737488355328 then (impl_EscNorm.l0 k1 a0 (x4_1 ++ y330) (wrap64 ((wrap64 (x5_1 + 2)) + 1))) else (none))) else (none)) else (none)) else (none)) else (none)) = some (r1,r2):=by first|(rw [hji14] at H;exact H)|(simp only [hji14] at H ⊢;exact H)
         (try rw [hji14] at A7)
         (try rw [hji14] at A9)
         by_cases c15:0 ≤ (ji14)
         ·rw [if_pos c15] at H
          have c15b0:decide (0 ≤ (ji14)) = true:=decide_eq_true c15
          clear c15
          by_cases c16:(ji14) < 16
          ·rw [if_pos c16] at H
           have c16b0:decide ((ji14) < 16) = true:=decide_eq_true c16
           clear c16
           by_cases c18:0 ≤ (Go.bits .and .u8 t324 15)
           ·rw [if_pos c18] at H
            have c18b0:decide (0 ≤ (Go.bits .and .u8 t324 15)) = true:=decide_eq_true c18
            clear c18
            by_cases c19:(Go.bits .and .u8 t324 15) < 16
            ·rw [if_pos c19] at H
             have c19b0:decide ((Go.bits .and .u8 t324 15) < 16) = true:=decide_eq_true c19
             clear c19
             obtain ⟨y330,hy330⟩:∃ y_:List Int,y_ = (([37,bt (⟨#[48,49,50,51,52,53,54,55,56,57,65,66,67,68,69,70]⟩:ByteArray) (ji14),bt (⟨#[48,49,50,51,52,53,54,55,56,57,65,66,67,68,69,70]⟩:ByteArray) (Go.bits .and .u8 t324 15)]:List Int)):=⟨_,rfl⟩
             replace H:(if x4_1.length + y330.length < 140737488355328 then (impl_EscNorm.l0 k1 a0 (x4_1 ++ y330) (wrap64 ((wrap64 (x5_1 + 2)) + 1))) else (none)) = some (r1,r2):=by first|(rw [hy330];with_reducible exact H)|(have H2_:=(Option.bind_some _ _).symm.trans H;rw [hy330];with_reducible exact H2_)|(have H2_:=(Option.bind_some _ _).symm.trans H;with_reducible exact H2_)|with_reducible exact H|(rw [hy330];exact H)|exact H
             have Ny330:=Aside0.mk hy330
             clear hy330
             by_cases c21:x4_1.length + y330.length < 140737488355328
             ·rw [if_pos c21] at H
              have LMc21:=Aside0.mk c21
              clear c21
              obtain ⟨y333,hy333⟩:∃ y_:List Int,y_ = (x4_1 ++ y330):=⟨_,rfl⟩
              replace H:(impl_EscNorm.l0 k1 a0 y333 (wrap64 ((wrap64 (x5_1 + 2)) + 1))) = some (r1,r2):=by first|(rw [hy333];with_reducible exact H)|(have H2_:=(Option.bind_some _ _).symm.trans H;rw [hy333];with_reducible exact H2_)|(have H2_:=(Option.bind_some _ _).symm.trans H;with_reducible exact H2_)|with_reducible exact H|(rw [hy333];exact H)|exact H
              have Ny333:=Aside0.mk hy333
              clear hy333
              have H':=Aside0.mk H
              clear H
              have p5:0 ≤ (x5_1:Int):=of_decide_eq_true (by first|(with_reducible assumption)|assumption)
              have q5:x5_1 < (a0.size:Int):=of_decide_eq_true (by first|(with_reducible assumption)|assumption)
              have hx5:=bt_at a0 x5_1
              replace p5:=eq_true p5
              replace q5:=eq_true q5
              try go_wp2_with (first|((with_reducible refine gate_callee (f:=68) rfl ?_);refine goesL_ (some 26) rfl rfl Tryd.func68 (by kernel_rfl) rfl #[.string a0, .int .i64 x5_1] rfl (by (try simp only [List.map_toArray,List.map_cons,List.map_nil]);first|done|rfl|(simp only [List.length_drop,List.length_take];rfl)) ?_;(with_reducible refine (impl_signByte.calls a0 x5_1 t324 true _ A7.out).mono ?_);rintro e w22 ⟨rfl,hb⟩;refine ⟨_,rfl,?_⟩;have n0_:=Aside0.mk (Kd.R_below (by (with_reducible repeat (first|apply Kd.R_alloc|apply Kd.R_drewN|apply Kd.R_drew));exact HO_4.out) hb);have n1_:=Aside0.mk (below_step (by repeat (first|(with_reducible first|exact HB.out|apply below_alloc|apply pw_below_drewN|apply below_drew1)|exact HB.out)) hb);clear HO_4;clear HB;have HO_4:=n0_;have HB:=n1_;clear n0_ n1_;(try clear hb);(try clear hb2);(try clear hk);(try clear hi))|((with_reducible refine gate_callee (f:=69) rfl ?_);refine goesL_ (some 35) rfl rfl Tryd.func69 (by kernel_rfl) rfl #[.int .u8 t324] rfl (by (try simp only [List.map_toArray,List.map_cons,List.map_nil]);first|done|rfl|(simp only [List.length_drop,List.length_take];rfl)) ?_;(with_reducible refine (impl_standsForItself.calls t324 false _ A9.out).mono ?_);rintro e w' ⟨rfl,⟨nd,rfl⟩⟩;refine ⟨_,rfl,?_⟩))
              (try (rw [drewN_self w22];generalize hq_:World.drewN w22 _ = w22;have n0_:Aside0 (Kd.R (Kd.int .u8) 5 w22 w.heap.size (fun _=>True) u4 x4_1):=⟨by rw [← hq_];exact (by (with_reducible repeat (first|apply Kd.R_alloc|apply Kd.R_drewN|apply Kd.R_drew));exact HO_4.out)⟩;have n1_:Aside0 (Below w.heap.size w w22):=⟨by rw [← hq_];exact (by repeat (first|(with_reducible first|exact HB.out|apply below_alloc|apply pw_below_drewN|apply below_drew1)|exact HB.out))⟩;clear HO_4 HB hq_;have HO_4:=n0_;have HB:=n1_;clear n0_ n1_))
              have n0_:=Aside0.mk (Kd.R_drew HO_4.out)
              have n1_:=Aside0.mk (below_drew1 HB.out)
              clear HO_4
              clear HB
              have HO_4:=n0_
              have HB:=n1_
              clear n0_ n1_
              have p17:0 ≤ ((ji14):Int):=of_decide_eq_true (by first|(with_reducible assumption)|assumption)
              have q17:(ji14) < (16:Int):=of_decide_eq_true (by first|(with_reducible assumption)|assumption)
              have hx17:=bt_at (⟨#[48,49,50,51,52,53,54,55,56,57,65,66,67,68,69,70]⟩:ByteArray) (ji14)
              replace p17:=eq_true p17
              replace q17:=eq_true q17
              have p20:0 ≤ ((Go.bits .and .u8 t324 15):Int):=of_decide_eq_true (by first|(with_reducible assumption)|assumption)
              have q20:(Go.bits .and .u8 t324 15) < (16:Int):=of_decide_eq_true (by first|(with_reducible assumption)|assumption)
              have hx20:=bt_at (⟨#[48,49,50,51,52,53,54,55,56,57,65,66,67,68,69,70]⟩:ByteArray) (Go.bits .and .u8 t324 15)
              replace p20:=eq_true p20
              replace q20:=eq_true q20
              refine start_ (n:=10) (S:=fun w'=>True) (ds:=[]) #[false,false,false,false,false,false,false,false,false,false] (by kernel_rfl) rfl rfl trivial (fun hHeld=>?_);refine with_tabW impl_EscNorm.tab16 impl_EscNorm.bits16 (fun HT_ HW_=>?_)
              generalize w22.drew = w23 at HO_4 HB hHeld ⊢
              refine pure_ (i:=0) (N:=some 40) (v:=?_) (a':=?_) #[true,false,false,false,false,false,false,false,false,false] rfl rfl (any_of HT_.out (by kernel_rfl)) (fun _ _ _ h=>h) (Or.inl ⟨by rfl,?_⟩) ?_ ?_
              rotate_left
              ·intro w'
               go_simp
               with_reducible rfl
              rotate_left
              ·simp only [Act.put,List.setIfInBounds_toArray,List.set_cons_zero,List.set_cons_succ,i64_w,i32_w]
               rfl
              refine pure_ (i:=1) (N:=some 41) (v:=?_) (a':=?_) #[true,true,false,false,false,false,false,false,false,false] rfl rfl (any_of HT_.out (by kernel_rfl)) (fun _ _ _ h=>h) (Or.inl ⟨by rfl,?_⟩) ?_ ?_
              rotate_left
              ·intro w'
               go_simp
               with_reducible rfl
              rotate_left
              ·simp only [Act.put,List.setIfInBounds_toArray,List.set_cons_zero,List.set_cons_succ,i64_w,i32_w]
               rfl
              refine pure_ (i:=2) (N:=some 42) (v:=?_) (a':=?_) #[true,true,true,false,false,false,false,false,false,false] rfl rfl (any_of HT_.out (by kernel_rfl)) (fun _ _ _ h=>h) (Or.inl ⟨by rfl,?_⟩) ?_ ?_
              rotate_left
              ·intro w'
               go_simp
               with_reducible rfl
              rotate_left
              ·simp only [Act.put,List.setIfInBounds_toArray,List.set_cons_zero,List.set_cons_succ,i64_w,i32_w]
               rfl
              refine pure_ (i:=4) (N:=some 44) (v:=?_) (a':=?_) #[true,true,true,false,true,false,false,false,false,false] rfl rfl (any_of HT_.out (by kernel_rfl)) (fun _ _ _ h=>h) (Or.inl ⟨by rfl,?_⟩) ?_ ?_
              rotate_left
              ·intro w'
               go_simp
               with_reducible rfl
              rotate_left
              ·simp only [Act.put,List.setIfInBounds_toArray,List.set_cons_zero,List.set_cons_succ,i64_w,i32_w]
               rfl
              refine pure_ (i:=5) (N:=some 45) (v:=?_) (a':=?_) #[true,true,true,false,true,true,false,false,false,false] rfl rfl (any_of HT_.out (by kernel_rfl)) (fun _ _ _ h=>h) (Or.inl ⟨by rfl,?_⟩) ?_ ?_
              rotate_left
              ·intro w'
               go_simp
               with_reducible rfl
              rotate_left
              ·simp only [Act.put,List.setIfInBounds_toArray,List.set_cons_zero,List.set_cons_succ,i64_w,i32_w]
               rfl
              refine take_ (i:=3) (N:=some 43) (v:=?_) (a':=?_) #[true,true,true,true,true,true,false,false,false,false] rfl rfl (take_ofW HT_.out HW_.out (by kernel_rfl)) (fun _ _ _ h=>h) (Or.inl ⟨by rfl,?_⟩) hHeld ?_ ?_
              rotate_left
              ·intro w' _
               go_simp
               with_reducible rfl
              rotate_left
              ·simp only [Act.put,List.setIfInBounds_toArray,List.set_cons_zero,List.set_cons_succ,i64_w,i32_w]
               rfl
              refine take_ (i:=6) (N:=some 46) (v:=?_) (a':=?_) #[true,true,true,true,true,true,true,false,false,false] rfl rfl (take_ofW HT_.out HW_.out (by kernel_rfl)) (fun _ _ _ h=>h) (Or.inl ⟨by rfl,?_⟩) hHeld ?_ ?_
              rotate_left
              ·intro w' _
               go_simp
               with_reducible rfl
              rotate_left
              ·simp only [Act.put,List.setIfInBounds_toArray,List.set_cons_zero,List.set_cons_succ,i64_w,i32_w]
               rfl
              refine one_ (i:=7) (N:=some 47) #[true,true,true,true,true,true,true,true,false,false] rfl rfl (one_of HT_.out (by kernel_rfl)) (by decide) (fun K hK=>?_)
              refine Kd.R_lit_step (Kd.int .u8) _ 5 ?hg (N:=47) ?hd (xs:=([37,bt (⟨#[48,49,50,51,52,53,54,55,56,57,65,66,67,68,69,70]⟩:ByteArray) (ji14),bt (⟨#[48,49,50,51,52,53,54,55,56,57,65,66,67,68,69,70]⟩:ByteArray) (Go.bits .and .u8 t324 15)]:List Int)) (inner:=[.int .u8 37, .int .u8 (bt (⟨#[48,49,50,51,52,53,54,55,56,57,65,66,67,68,69,70]⟩:ByteArray) (ji14)), .int .u8 (bt (⟨#[48,49,50,51,52,53,54,55,56,57,65,66,67,68,69,70]⟩:ByteArray) (Go.bits .and .u8 t324 15))]) (ok:=fun _=>True) (okp:=fun _=>True) ?hr ?hp (fun _ hk=>hk) trivial (Below.refl _ _) (Nat.le_refl _) (by simp) ?_;(case hd=>rfl);(case hg=>rfl);(case hr=>first|(go_simp;done)|(go_simp;rfl));(case hp=>exact (Reps.one (show Kd.M (Kd.int .u8) _ _ _ 37 [.int .u8 37] from rfl) (Reps.one (show Kd.M (Kd.int .u8) _ _ _ (bt (⟨#[48,49,50,51,52,53,54,55,56,57,65,66,67,68,69,70]⟩:ByteArray) (ji14)) [.int .u8 (bt (⟨#[48,49,50,51,52,53,54,55,56,57,65,66,67,68,69,70]⟩:ByteArray) (ji14))] from rfl) (Reps.one (show Kd.M (Kd.int .u8) _ _ _ (bt (⟨#[48,49,50,51,52,53,54,55,56,57,65,66,67,68,69,70]⟩:ByteArray) (Go.bits .and .u8 t324 15)) [.int .u8 (bt (⟨#[48,49,50,51,52,53,54,55,56,57,65,66,67,68,69,70]⟩:ByteArray) (Go.bits .and .u8 t324 15))] from rfl) (Reps.none _ _)))))
              intro v331 w24 ho25 hb hg_ hnew_
              clear hg_ hnew_
              (first|rw [← Ny330.out] at ho25|(simp only [Int.reduceToNat] at ho25;rw [← Ny330.out] at ho25))
              have n0_:=Aside0.mk (Kd.R_elder' (by (with_reducible repeat (first|apply Kd.R_alloc|apply Kd.R_drewN|apply Kd.R_drew));exact HO_4.out) (Kd.R_base ho25) hb)
              have n1_:=Aside0.mk (Kd.R_lower (Kd.R_new' ho25 (Kd.R_lt (by (with_reducible repeat (first|apply Kd.R_alloc|apply Kd.R_drewN|apply Kd.R_drew));exact HO_4.out))) (below_size (by repeat (first|(with_reducible first|exact HB.out|apply below_alloc|apply pw_below_drewN|apply below_drew1)|exact HB.out))))
              have n2_:=Aside0.mk (below_step (by repeat (first|(with_reducible first|exact HB.out|apply below_alloc|apply pw_below_drewN|apply below_drew1)|exact HB.out)) hb)
              clear HO_4
              clear HB
              have HO_4:=n0_
              have HO332:=n1_
              have HB:=n2_
              clear n0_ n1_ n2_
              clear hb ho25
              obtain ⟨Ao27,co27,eo27⟩:=Kd.R_slice HO332.out
              (first|subst eo27|(injection eo27 with f1_ f2_ f3_;have f4_:=f1_.symm;have f5_:=f3_.symm;clear f1_ f2_ f3_;subst f4_;subst f5_))
              refine hK.out _ _ trivial (fun hHeld=>?_)
              clear hK K
              refine norm_ (a':=?_) ?_ ?_
              rotate_left
              ·show Act.put _ (some 47) _ = _
               simp only [Act.put,List.setIfInBounds_toArray,List.set_cons_zero,List.set_cons_succ,i64_w,i32_w]
               rfl
              refine one_ (i:=8) (N:=some 48) #[true,true,true,true,true,true,true,true,true,false] rfl rfl (one_of HT_.out (by kernel_rfl)) (by decide) (fun K hK=>?_)
              refine Kd.R_append_rows_step (Kd.int .u8) (w0:=w) w.heap.size (by rfl) (.tmp 40) (.tmp 47) 30 5 (.int .u8 0) 1 rfl Tryd.underlying30 info5 rfl (by decide) (by omega) u4 x4_1 y330 _ _ _ (fun k_=>some k_ ≠ (.slice Ao27 y330.length co27:Value).ownBlock) (fun _=>False) rfl rfl ?aO ?aR (fun _ _ h=>h) (fun _ h=>h.elim) ?aF ?aB ?aS ?aL ?_
              (case aR=>repeat (first|exact (Kd.R_reads' HO332.out).2.2|(with_reducible refine Kd.C_alloc ?_ _)|(with_reducible refine Kd.C_drewN ?_ _)|(with_reducible refine Kd.C_drew ?_)))
              (case aB=>exact (by repeat (first|(with_reducible first|exact HB.out|apply below_alloc|apply pw_below_drewN|apply below_drew1)|exact HB.out)))
              (case aF=>exact (fun k_ hk=>Kd.fresh' (Kd.R_lt (by (with_reducible repeat (first|apply Kd.R_alloc|apply Kd.R_drewN|apply Kd.R_drew));exact HO332.out)) k_ hk))
              (case aO=>exact (by (with_reducible repeat (first|apply Kd.R_alloc|apply Kd.R_drewN|apply Kd.R_drew));exact Kd.R_mono HO_4.out (fun _ hk=>hk.2)))
              (case aS=>exact (below_size (by repeat (first|(with_reducible first|exact HB.out|apply below_alloc|apply pw_below_drewN|apply below_drew1)|exact HB.out))))
              (case aL=>have:=LMc21.out;omega)
              intro v334 w26 ho hb hg hat
              rw [← Ny333.out] at ho
              have n0_:=Aside0.mk (Kd.R_after (ok:=(fun _=>True)) (by (with_reducible repeat (first|apply Kd.R_alloc|apply Kd.R_drewN|apply Kd.R_drew));exact HO332.out) hg hat)
              have n1_:=Aside0.mk (hb)
              have n2_:=Aside0.mk (ho)
              clear HO332
              clear HB
              clear HO_4
              have HO332:=n0_
              have HB:=n1_
              have HO335:=n2_
              clear n0_ n1_ n2_
              clear ho hb hg hat
              refine hK.out _ _ trivial (fun hHeld=>?_)
              clear hK K
              refine norm_ (a':=?_) ?_ ?_
              rotate_left
              ·show Act.put _ (some 48) _ = _
               simp only [Act.put,List.setIfInBounds_toArray,List.set_cons_zero,List.set_cons_succ,i64_w,i32_w]
               rfl
              refine pure_ (i:=9) (N:=some 4) (v:=?_) (a':=?_) #[true,true,true,true,true,true,true,true,true,true] rfl rfl (any_of HT_.out (by kernel_rfl)) (fun _ _ _ h=>h) (Or.inl ⟨by rfl,?_⟩) ?_ ?_
              rotate_left
              ·intro w'
               go_simp
               with_reducible rfl
              rotate_left
              ·simp only [Act.put,List.setIfInBounds_toArray,List.set_cons_zero,List.set_cons_succ,i64_w,i32_w]
               rfl
              refine done_ (done_of HT_.out (by kernel_rfl)) ?_
              try go_wp2
              go_roundg k1
              case measure=>have:=HK1.out;omega
              case rel=>exact ⟨(y333),(wrap64 ((wrap64 (x5_1 + 2)) + 1)),(by first|rfl|(simp;done)|(simp only [i64_w,i32_w];done)|(simp only [i64_w,i32_w];rfl)|(simp [*];done)|(simp [emp_bne,emp_beq];done)),H',⟨by have:=HK1.out;omega⟩,⟨by (with_reducible repeat (first|apply Kd.R_alloc|apply Kd.R_drewN|apply Kd.R_drew));exact Kd.R_mono HO335.out (fun _ hk=>trivial)⟩,⟨by repeat (first|(with_reducible first|exact HB.out|apply below_alloc|apply pw_below_drewN|apply below_drew1)|exact HB.out)⟩⟩
             ·rw [if_neg c21] at H
              exact absurd H (by simp)
            ·rw [if_neg c19] at H
             exact absurd H (by simp)
           ·rw [if_neg c18] at H
            exact absurd H (by simp)
          ·rw [if_neg c16] at H
           exact absurd H (by simp)
         ·rw [if_neg c15] at H
          exact absurd H (by simp)
       ·replace c8:=Bool.eq_false_iff.mpr c8
        subst c8
        have H1:(some ((⟨#[]⟩:ByteArray),false)) = some (r1,r2):=by rw [if_neg (show ¬ (false = true) by decide)] at H;exact H
        clear H
        have H:=H1
        clear H1
        simp only [Option.some.injEq,Prod.mk.injEq] at H
        obtain ⟨rfl,rfl⟩:=H
        have p5:0 ≤ (x5_1:Int):=of_decide_eq_true (by first|(with_reducible assumption)|assumption)
        have q5:x5_1 < (a0.size:Int):=of_decide_eq_true (by first|(with_reducible assumption)|assumption)
        have hx5:=bt_at a0 x5_1
        replace p5:=eq_true p5
        replace q5:=eq_true q5
        go_wp2_with (first|((with_reducible refine gate_callee (f:=68) rfl ?_);refine goesL_ (some 26) rfl rfl Tryd.func68 (by kernel_rfl) rfl #[.string a0, .int .i64 x5_1] rfl (by (try simp only [List.map_toArray,List.map_cons,List.map_nil]);first|done|rfl|(simp only [List.length_drop,List.length_take];rfl)) ?_;(with_reducible refine (impl_signByte.calls a0 x5_1 t324 false _ A7.out).mono ?_);rintro e w28 ⟨rfl,hb⟩;refine ⟨_,rfl,?_⟩;have n0_:=Aside0.mk (Kd.R_below (by (with_reducible repeat (first|apply Kd.R_alloc|apply Kd.R_drewN|apply Kd.R_drew));exact HO_4.out) hb);have n1_:=Aside0.mk (below_step (by repeat (first|(with_reducible first|exact HB.out|apply below_alloc|apply pw_below_drewN|apply below_drew1)|exact HB.out)) hb);clear HO_4;clear HB;have HO_4:=n0_;have HB:=n1_;clear n0_ n1_;(try clear hb);(try clear hb2);(try clear hk);(try clear hi)))
        go_ret2
        exact ⟨by first|rfl|(simp <;> rfl)|(simp [*] <;> rfl),by repeat (first|(with_reducible first|exact HB.out|apply below_alloc|apply pw_below_drewN|apply below_drew1)|exact HB.out)⟩
      ·rw [if_neg c6] at H
       have c6b0:((bt a0 x5_1) == 37) = false:=beq_eq_false_iff_ne.mpr c6
       have c6b1:((bt a0 x5_1) != 37) = true:=bne_iff_ne.mpr c6
       replace H:=Option.bind_eq_some_iff.mp H
       obtain ⟨t336,A290,H⟩:=H
       replace H:(if t336 = true then (if x4_1.length < 140737488355328 then (impl_EscNorm.l0 k1 a0 (x4_1 ++ [bt a0 x5_1]) (wrap64 (x5_1 + 1))) else (none)) else (if 0 ≤ ((bt a0 x5_1) / 16) then (if ((bt a0 x5_1) / 16) < 16 then (if 0 ≤ (Go.bits .and .u8 (bt a0 x5_1) 15) then (if (Go.bits .and .u8 (bt a0 x5_1) 15) < 16 then ((some (([37,bt (⟨#[48,49,50,51,52,53,54,55,56,57,65,66,67,68,69,70]⟩:ByteArray) ((bt a0 x5_1) / 16),bt (⟨#[48,49,50,51,52,53,54,55,56,57,65,66,67,68,69,70]⟩:ByteArray) (Go.bits .and .u8 (bt a0 x5_1) 15)]:List Int):List Int)).bind fun y340=>(if x4_1.length + y340.length < 140737488355328 then (impl_EscNorm.l0 k1 a0 (x4_1 ++ y340) (wrap64 (x5_1 + 1))) else (none))) else (none)) else (none)) else (none)) else (none))) = some (r1,r2):=H
       have A29:=Aside0.mk A290
       clear A290
       by_cases c30:t336 = true
       ·subst c30
        have H1:(if x4_1.length < 140737488355328 then (impl_EscNorm.l0 k1 a0 (x4_1 ++ [bt a0 x5_1]) (wrap64 (x5_1 + 1))) else (none)) = some (r1,r2):=by rw [if_pos rfl] at H;exact H
        clear H
        have H:=H1
        clear H1
        by_cases c31:x4_1.length < 140737488355328
        ·rw [if_pos c31] at H
         have LMc31:=Aside0.mk c31
         clear c31
         obtain ⟨y337,hy337⟩:∃ y_:List Int,y_ = (x4_1 ++ [bt a0 x5_1]):=⟨_,rfl⟩
         replace H:(impl_EscNorm.l0 k1 a0 y337 (wrap64 (x5_1 + 1))) = some (r1,r2):=by first|(rw [hy337];with_reducible exact H)|(have H2_:=(Option.bind_some _ _).symm.trans H;rw [hy337];with_reducible exact H2_)|(have H2_:=(Option.bind_some _ _).symm.trans H;with_reducible exact H2_)|with_reducible exact H|(rw [hy337];exact H)|exact H
         have Ny337:=Aside0.mk hy337
         clear hy337
         have H':=Aside0.mk H
         clear H
         have p5:0 ≤ (x5_1:Int):=of_decide_eq_true (by first|(with_reducible assumption)|assumption)
         have q5:x5_1 < (a0.size:Int):=of_decide_eq_true (by first|(with_reducible assumption)|assumption)
         have hx5:=bt_at a0 x5_1
         replace p5:=eq_true p5
         replace q5:=eq_true q5
         go_wp2_with (first|((with_reducible refine gate_callee (f:=69) rfl ?_);refine goesL_ (some 35) rfl rfl Tryd.func69 (by kernel_rfl) rfl #[.int .u8 (bt a0 x5_1)] rfl (by (try simp only [List.map_toArray,List.map_cons,List.map_nil]);first|done|rfl|(simp only [List.length_drop,List.length_take];rfl)) ?_;(with_reducible refine (impl_standsForItself.calls (bt a0 x5_1) true _ A29.out).mono ?_);rintro e w' ⟨rfl,⟨nd,rfl⟩⟩;refine ⟨_,rfl,?_⟩)|((with_reducible refine gate_builtin (b:=.append) (xs:=#[.tmp 36, .tmp 38]) rfl ?_);at_builtin;refine Kd.R_append (Kd.int .u8) (w0:=w) w.heap.size rfl (.tmp 36) (.tmp 38) 30 5 (.int .u8 0) 1 rfl Tryd.underlying30 info5 rfl (by decide) (by omega) u4 x4_1 (bt a0 x5_1) [.int .u8 (bt a0 x5_1)] (fun _=>True) (fun _=>False) rfl rfl ?aP (fun _ hk=>hk.elim) ?aF ?aO ?aB ?aS ?aL ?_;(case aP=>exact rfl);(case aB=>exact (by repeat (first|(with_reducible first|exact HB.out|apply below_alloc|apply pw_below_drewN|apply below_drew1)|exact HB.out)));(case aF=>exact (fun _ _=>trivial));(case aO=>exact (by (with_reducible repeat (first|apply Kd.R_alloc|apply Kd.R_drewN|apply Kd.R_drew));exact HO_4.out));(case aS=>exact (below_size (by repeat (first|(with_reducible first|exact HB.out|apply below_alloc|apply pw_below_drewN|apply below_drew1)|exact HB.out))));(case aL=>have:=LMc31.out;omega);intro v338 w32 ho hb hg hat;rw [← Ny337.out] at ho;have n0_:=Aside0.mk (hb);have n1_:=Aside0.mk (ho);clear HB;clear HO_4;have HB:=n0_;have HO339:=n1_;clear n0_ n1_;clear ho hb hg hat))
         go_roundg k1
         case measure=>have:=HK1.out;omega
         case rel=>exact ⟨(y337),(wrap64 (x5_1 + 1)),(by first|rfl|(simp;done)|(simp only [i64_w,i32_w];done)|(simp only [i64_w,i32_w];rfl)|(simp [*];done)|(simp [emp_bne,emp_beq];done)),H',⟨by have:=HK1.out;omega⟩,⟨by (with_reducible repeat (first|apply Kd.R_alloc|apply Kd.R_drewN|apply Kd.R_drew));exact HO339.out⟩,⟨by repeat (first|(with_reducible first|exact HB.out|apply below_alloc|apply pw_below_drewN|apply below_drew1)|exact HB.out)⟩⟩
        ·rw [if_neg c31] at H
         exact absurd H (by simp)
       ·replace c30:=Bool.eq_false_iff.mpr c30
        subst c30
        have H1:(if 0 ≤ ((bt a0 x5_1) / 16) then (if ((bt a0 x5_1) / 16) < 16 then (if 0 ≤ (Go.bits .and .u8 (bt a0 x5_1) 15) then (if (Go.bits .and .u8 (bt a0 x5_1) 15) < 16 then ((some (([37,bt (⟨#[48,49,50,51,52,53,54,55,56,57,65,66,67,68,69,70]⟩:ByteArray) ((bt a0 x5_1) / 16),bt (⟨#[48,49,50,51,52,53,54,55,56,57,65,66,67,68,69,70]⟩:ByteArray) (Go.bits .and .u8 (bt a0 x5_1) 15)]:List Int):List Int)).bind fun y340=>(if x4_1.length + y340.length < 140737488355328 then (impl_EscNorm.l0 k1 a0 (x4_1 ++ y340) (wrap64 (x5_1 + 1))) else (none))) else (none)) else (none)) else (none)) else (none)) = some (r1,r2):=by rw [if_neg (show ¬ (false = true) by decide)] at H;exact H
        clear H
        have H:=H1
        clear H1
        obtain ⟨ji33,hji33⟩:∃ j_:Int,((bt a0 x5_1) / 16) = j_:=⟨_,rfl⟩
        replace H:(if 0 ≤ (ji33) then (if (ji33) < 16 then (if 0 ≤ (Go.bits .and .u8 (bt a0 x5_1) 15) then (if (Go.bits .and .u8 (bt a0 x5_1) 15) < 16 then ((some (([37,bt (⟨#[48,49,50,51,52,53,54,55,56,57,65,66,67,68,69,70]⟩:ByteArray) (ji33),bt (⟨#[48,49,50,51,52,53,54,55,56,57,65,66,67,68,69,70]⟩:ByteArray) (Go.bits .and .u8 (bt a0 x5_1) 15)]:List Int):List Int)).bind fun y340=>(if x4_1.length + y340.length < 140737488355328 then (impl_EscNorm.l0 k1 a0 (x4_1 ++ y340) (wrap64 (x5_1 + 1))) else (none))) else (none)) else (none)) else (none)) else (none)) = some (r1,r2):=by first|(rw [hji33] at H;exact H)|(simp only [hji33] at H ⊢;exact H)
        (try rw [hji33] at A29)
        by_cases c34:0 ≤ (ji33)
        ·rw [if_pos c34] at H
         have c34b0:decide (0 ≤ (ji33)) = true:=decide_eq_true c34
         clear c34
         by_cases c35:(ji33) < 16
         ·rw [if_pos c35] at H
          have c35b0:decide ((ji33) < 16) = true:=decide_eq_true c35
          clear c35
          by_cases c37:0 ≤ (Go.bits .and .u8 (bt a0 x5_1) 15)
          ·rw [if_pos c37] at H
           have c37b0:decide (0 ≤ (Go.bits .and .u8 (bt a0 x5_1) 15)) = true:=decide_eq_true c37
           clear c37
           by_cases c38:(Go.bits .and .u8 (bt a0 x5_1) 15) < 16
           ·rw [if_pos c38] at H
            have c38b0:decide ((Go.bits .and .u8 (bt a0 x5_1) 15) < 16) = true:=decide_eq_true c38
            clear c38
            obtain ⟨y340,hy340⟩:∃ y_:List Int,y_ = (([37,bt (⟨#[48,49,50,51,52,53,54,55,56,57,65,66,67,68,69,70]⟩:ByteArray) (ji33),bt (⟨#[48,49,50,51,52,53,54,55,56,57,65,66,67,68,69,70]⟩:ByteArray) (Go.bits .and .u8 (bt a0 x5_1) 15)]:List Int)):=⟨_,rfl⟩
            replace H:(if x4_1.length + y340.length < 140737488355328 then (impl_EscNorm.l0 k1 a0 (x4_1 ++ y340) (wrap64 (x5_1 + 1))) else (none)) = some (r1,r2):=by first|(rw [hy340];with_reducible exact H)|(have H2_:=(Option.bind_some _ _).symm.trans H;rw [hy340];with_reducible exact H2_)|(have H2_:=(Option.bind_some _ _).symm.trans H;with_reducible exact H2_)|with_reducible exact H|(rw [hy340];exact H)|exact H
            have Ny340:=Aside0.mk hy340
            clear hy340
            by_cases c40:x4_1.length + y340.length < 140737488355328
            ·rw [if_pos c40] at H
             have LMc40:=Aside0.mk c40
             clear c40
             obtain ⟨y343,hy343⟩:∃ y_:List Int,y_ = (x4_1 ++ y340):=⟨_,rfl⟩
             replace H:(impl_EscNorm.l0 k1 a0 y343 (wrap64 (x5_1 + 1))) = some (r1,r2):=by first|(rw [hy343];with_reducible exact H)|(have H2_:=(Option.bind_some _ _).symm.trans H;rw [hy343];with_reducible exact H2_)|(have H2_:=(Option.bind_some _ _).symm.trans H;with_reducible exact H2_)|with_reducible exact H|(rw [hy343];exact H)|exact H
             have Ny343:=Aside0.mk hy343
             clear hy343
             have H':=Aside0.mk H
             clear H
             have p5:0 ≤ (x5_1:Int):=of_decide_eq_true (by first|(with_reducible assumption)|assumption)
             have q5:x5_1 < (a0.size:Int):=of_decide_eq_true (by first|(with_reducible assumption)|assumption)
             have hx5:=bt_at a0 x5_1
             replace p5:=eq_true p5
             replace q5:=eq_true q5
             try go_wp2_with (first|((with_reducible refine gate_callee (f:=69) rfl ?_);refine goesL_ (some 35) rfl rfl Tryd.func69 (by kernel_rfl) rfl #[.int .u8 (bt a0 x5_1)] rfl (by (try simp only [List.map_toArray,List.map_cons,List.map_nil]);first|done|rfl|(simp only [List.length_drop,List.length_take];rfl)) ?_;(with_reducible refine (impl_standsForItself.calls (bt a0 x5_1) false _ A29.out).mono ?_);rintro e w' ⟨rfl,⟨nd,rfl⟩⟩;refine ⟨_,rfl,?_⟩))
             (try (rw [drewN_self wr];generalize hq_:World.drewN wr _ = wr;have n0_:Aside0 (Kd.R (Kd.int .u8) 5 wr w.heap.size (fun _=>True) u4 x4_1):=⟨by rw [← hq_];exact (by (with_reducible repeat (first|apply Kd.R_alloc|apply Kd.R_drewN|apply Kd.R_drew));exact HO_4.out)⟩;have n1_:Aside0 (Below w.heap.size w wr):=⟨by rw [← hq_];exact (by repeat (first|(with_reducible first|exact HB.out|apply below_alloc|apply pw_below_drewN|apply below_drew1)|exact HB.out))⟩;clear HO_4 HB hq_;have HO_4:=n0_;have HB:=n1_;clear n0_ n1_))
             have n0_:=Aside0.mk (Kd.R_drew HO_4.out)
             have n1_:=Aside0.mk (below_drew1 HB.out)
             clear HO_4
             clear HB
             have HO_4:=n0_
             have HB:=n1_
             clear n0_ n1_
             have p36:0 ≤ ((ji33):Int):=of_decide_eq_true (by first|(with_reducible assumption)|assumption)
             have q36:(ji33) < (16:Int):=of_decide_eq_true (by first|(with_reducible assumption)|assumption)
             have hx36:=bt_at (⟨#[48,49,50,51,52,53,54,55,56,57,65,66,67,68,69,70]⟩:ByteArray) (ji33)
             replace p36:=eq_true p36
             replace q36:=eq_true q36
             have p39:0 ≤ ((Go.bits .and .u8 (bt a0 x5_1) 15):Int):=of_decide_eq_true (by first|(with_reducible assumption)|assumption)
             have q39:(Go.bits .and .u8 (bt a0 x5_1) 15) < (16:Int):=of_decide_eq_true (by first|(with_reducible assumption)|assumption)
             have hx39:=bt_at (⟨#[48,49,50,51,52,53,54,55,56,57,65,66,67,68,69,70]⟩:ByteArray) (Go.bits .and .u8 (bt a0 x5_1) 15)
             replace p39:=eq_true p39
             replace q39:=eq_true q39
             refine start_ (n:=10) (S:=fun w'=>True) (ds:=[]) #[false,false,false,false,false,false,false,false,false,false] (by kernel_rfl) rfl rfl trivial (fun hHeld=>?_);refine with_tabW impl_EscNorm.tab16 impl_EscNorm.bits16 (fun HT_ HW_=>?_)
             generalize wr.drew = w41 at HO_4 HB hHeld ⊢
             refine pure_ (i:=0) (N:=some 40) (v:=?_) (a':=?_) #[true,false,false,false,false,false,false,false,false,false] rfl rfl (any_of HT_.out (by kernel_rfl)) (fun _ _ _ h=>h) (Or.inl ⟨by rfl,?_⟩) ?_ ?_
             rotate_left
             ·intro w'
              go_simp
              with_reducible rfl
             rotate_left
             ·simp only [Act.put,List.setIfInBounds_toArray,List.set_cons_zero,List.set_cons_succ,i64_w,i32_w]
              rfl
             refine pure_ (i:=1) (N:=some 41) (v:=?_) (a':=?_) #[true,true,false,false,false,false,false,false,false,false] rfl rfl (any_of HT_.out (by kernel_rfl)) (fun _ _ _ h=>h) (Or.inl ⟨by rfl,?_⟩) ?_ ?_
             rotate_left
             ·intro w'
              go_simp
              with_reducible rfl
             rotate_left
             ·simp only [Act.put,List.setIfInBounds_toArray,List.set_cons_zero,List.set_cons_succ,i64_w,i32_w]
              rfl
             refine pure_ (i:=2) (N:=some 42) (v:=?_) (a':=?_) #[true,true,true,false,false,false,false,false,false,false] rfl rfl (any_of HT_.out (by kernel_rfl)) (fun _ _ _ h=>h) (Or.inl ⟨by rfl,?_⟩) ?_ ?_
             rotate_left
             ·intro w'
              go_simp
              with_reducible rfl
             rotate_left
             ·simp only [Act.put,List.setIfInBounds_toArray,List.set_cons_zero,List.set_cons_succ,i64_w,i32_w]
              rfl
             refine pure_ (i:=4) (N:=some 44) (v:=?_) (a':=?_) #[true,true,true,false,true,false,false,false,false,false] rfl rfl (any_of HT_.out (by kernel_rfl)) (fun _ _ _ h=>h) (Or.inl ⟨by rfl,?_⟩) ?_ ?_
             rotate_left
             ·intro w'
              go_simp
              with_reducible rfl
             rotate_left
             ·simp only [Act.put,List.setIfInBounds_toArray,List.set_cons_zero,List.set_cons_succ,i64_w,i32_w]
              rfl
             refine pure_ (i:=5) (N:=some 45) (v:=?_) (a':=?_) #[true,true,true,false,true,true,false,false,false,false] rfl rfl (any_of HT_.out (by kernel_rfl)) (fun _ _ _ h=>h) (Or.inl ⟨by rfl,?_⟩) ?_ ?_
             rotate_left
             ·intro w'
              go_simp
              with_reducible rfl
             rotate_left
             ·simp only [Act.put,List.setIfInBounds_toArray,List.set_cons_zero,List.set_cons_succ,i64_w,i32_w]
              rfl
             refine take_ (i:=3) (N:=some 43) (v:=?_) (a':=?_) #[true,true,true,true,true,true,false,false,false,false] rfl rfl (take_ofW HT_.out HW_.out (by kernel_rfl)) (fun _ _ _ h=>h) (Or.inl ⟨by rfl,?_⟩) hHeld ?_ ?_
             rotate_left
             ·intro w' _
              go_simp
              with_reducible rfl
             rotate_left
             ·simp only [Act.put,List.setIfInBounds_toArray,List.set_cons_zero,List.set_cons_succ,i64_w,i32_w]
              rfl
             refine take_ (i:=6) (N:=some 46) (v:=?_) (a':=?_) #[true,true,true,true,true,true,true,false,false,false] rfl rfl (take_ofW HT_.out HW_.out (by kernel_rfl)) (fun _ _ _ h=>h) (Or.inl ⟨by rfl,?_⟩) hHeld ?_ ?_
             rotate_left
             ·intro w' _
              go_simp
              with_reducible rfl
             rotate_left
             ·simp only [Act.put,List.setIfInBounds_toArray,List.set_cons_zero,List.set_cons_succ,i64_w,i32_w]
              rfl
             refine one_ (i:=7) (N:=some 47) #[true,true,true,true,true,true,true,true,false,false] rfl rfl (one_of HT_.out (by kernel_rfl)) (by decide) (fun K hK=>?_)
             refine Kd.R_lit_step (Kd.int .u8) _ 5 ?hg (N:=47) ?hd (xs:=([37,bt (⟨#[48,49,50,51,52,53,54,55,56,57,65,66,67,68,69,70]⟩:ByteArray) (ji33),bt (⟨#[48,49,50,51,52,53,54,55,56,57,65,66,67,68,69,70]⟩:ByteArray) (Go.bits .and .u8 (bt a0 x5_1) 15)]:List Int)) (inner:=[.int .u8 37, .int .u8 (bt (⟨#[48,49,50,51,52,53,54,55,56,57,65,66,67,68,69,70]⟩:ByteArray) (ji33)), .int .u8 (bt (⟨#[48,49,50,51,52,53,54,55,56,57,65,66,67,68,69,70]⟩:ByteArray) (Go.bits .and .u8 (bt a0 x5_1) 15))]) (ok:=fun _=>True) (okp:=fun _=>True) ?hr ?hp (fun _ hk=>hk) trivial (Below.refl _ _) (Nat.le_refl _) (by simp) ?_;(case hd=>rfl);(case hg=>rfl);(case hr=>first|(go_simp;done)|(go_simp;rfl));(case hp=>exact (Reps.one (show Kd.M (Kd.int .u8) _ _ _ 37 [.int .u8 37] from rfl) (Reps.one (show Kd.M (Kd.int .u8) _ _ _ (bt (⟨#[48,49,50,51,52,53,54,55,56,57,65,66,67,68,69,70]⟩:ByteArray) (ji33)) [.int .u8 (bt (⟨#[48,49,50,51,52,53,54,55,56,57,65,66,67,68,69,70]⟩:ByteArray) (ji33))] from rfl) (Reps.one (show Kd.M (Kd.int .u8) _ _ _ (bt (⟨#[48,49,50,51,52,53,54,55,56,57,65,66,67,68,69,70]⟩:ByteArray) (Go.bits .and .u8 (bt a0 x5_1) 15)) [.int .u8 (bt (⟨#[48,49,50,51,52,53,54,55,56,57,65,66,67,68,69,70]⟩:ByteArray) (Go.bits .and .u8 (bt a0 x5_1) 15))] from rfl) (Reps.none _ _)))))
             intro v341 w42 ho43 hb hg_ hnew_
             clear hg_ hnew_
             (first|rw [← Ny340.out] at ho43|(simp only [Int.reduceToNat] at ho43;rw [← Ny340.out] at ho43))
             have n0_:=Aside0.mk (Kd.R_elder' (by (with_reducible repeat (first|apply Kd.R_alloc|apply Kd.R_drewN|apply Kd.R_drew));exact HO_4.out) (Kd.R_base ho43) hb)
             have n1_:=Aside0.mk (Kd.R_lower (Kd.R_new' ho43 (Kd.R_lt (by (with_reducible repeat (first|apply Kd.R_alloc|apply Kd.R_drewN|apply Kd.R_drew));exact HO_4.out))) (below_size (by repeat (first|(with_reducible first|exact HB.out|apply below_alloc|apply pw_below_drewN|apply below_drew1)|exact HB.out))))
             have n2_:=Aside0.mk (below_step (by repeat (first|(with_reducible first|exact HB.out|apply below_alloc|apply pw_below_drewN|apply below_drew1)|exact HB.out)) hb)
             clear HO_4
             clear HB
             have HO_4:=n0_
             have HO342:=n1_
             have HB:=n2_
             clear n0_ n1_ n2_
             clear hb ho43
             obtain ⟨Ao45,co45,eo45⟩:=Kd.R_slice HO342.out
             (first|subst eo45|(injection eo45 with f1_ f2_ f3_;have f4_:=f1_.symm;have f5_:=f3_.symm;clear f1_ f2_ f3_;subst f4_;subst f5_))
             refine hK.out _ _ trivial (fun hHeld=>?_)
             clear hK K
             refine norm_ (a':=?_) ?_ ?_
             rotate_left
             ·show Act.put _ (some 47) _ = _
              simp only [Act.put,List.setIfInBounds_toArray,List.set_cons_zero,List.set_cons_succ,i64_w,i32_w]
              rfl
             refine one_ (i:=8) (N:=some 48) #[true,true,true,true,true,true,true,true,true,false] rfl rfl (one_of HT_.out (by kernel_rfl)) (by decide) (fun K hK=>?_)
             refine Kd.R_append_rows_step (Kd.int .u8) (w0:=w) w.heap.size (by rfl) (.tmp 40) (.tmp 47) 30 5 (.int .u8 0) 1 rfl Tryd.underlying30 info5 rfl (by decide) (by omega) u4 x4_1 y340 _ _ _ (fun k_=>some k_ ≠ (.slice Ao45 y340.length co45:Value).ownBlock) (fun _=>False) rfl rfl ?aO ?aR (fun _ _ h=>h) (fun _ h=>h.elim) ?aF ?aB ?aS ?aL ?_
             (case aR=>repeat (first|exact (Kd.R_reads' HO342.out).2.2|(with_reducible refine Kd.C_alloc ?_ _)|(with_reducible refine Kd.C_drewN ?_ _)|(with_reducible refine Kd.C_drew ?_)))
             (case aB=>exact (by repeat (first|(with_reducible first|exact HB.out|apply below_alloc|apply pw_below_drewN|apply below_drew1)|exact HB.out)))
             (case aF=>exact (fun k_ hk=>Kd.fresh' (Kd.R_lt (by (with_reducible repeat (first|apply Kd.R_alloc|apply Kd.R_drewN|apply Kd.R_drew));exact HO342.out)) k_ hk))
             (case aO=>exact (by (with_reducible repeat (first|apply Kd.R_alloc|apply Kd.R_drewN|apply Kd.R_drew));exact Kd.R_mono HO_4.out (fun _ hk=>hk.2)))
             (case aS=>exact (below_size (by repeat (first|(with_reducible first|exact HB.out|apply below_alloc|apply pw_below_drewN|apply below_drew1)|exact HB.out))))
             (case aL=>have:=LMc40.out;omega)
             intro v344 w44 ho hb hg hat
             rw [← Ny343.out] at ho
             have n0_:=Aside0.mk (Kd.R_after (ok:=(fun _=>True)) (by (with_reducible repeat (first|apply Kd.R_alloc|apply Kd.R_drewN|apply Kd.R_drew));exact HO342.out) hg hat)
             have n1_:=Aside0.mk (hb)
             have n2_:=Aside0.mk (ho)
             clear HO342
             clear HB
             clear HO_4
             have HO342:=n0_
             have HB:=n1_
             have HO345:=n2_
             clear n0_ n1_ n2_
             clear ho hb hg hat
             refine hK.out _ _ trivial (fun hHeld=>?_)
             clear hK K
             refine norm_ (a':=?_) ?_ ?_
             rotate_left
             ·show Act.put _ (some 48) _ = _
              simp only [Act.put,List.setIfInBounds_toArray,List.set_cons_zero,List.set_cons_succ,i64_w,i32_w]
              rfl
             refine pure_ (i:=9) (N:=some 4) (v:=?_) (a':=?_) #[true,true,true,true,true,true,true,true,true,true] rfl rfl (any_of HT_.out (by kernel_rfl)) (fun _ _ _ h=>h) (Or.inl ⟨by rfl,?_⟩) ?_ ?_
             rotate_left
             ·intro w'
              go_simp
              with_reducible rfl
             rotate_left
             ·simp only [Act.put,List.setIfInBounds_toArray,List.set_cons_zero,List.set_cons_succ,i64_w,i32_w]
              rfl
             refine done_ (done_of HT_.out (by kernel_rfl)) ?_
             try go_wp2
             go_roundg k1
             case measure=>have:=HK1.out;omega
             case rel=>exact ⟨(y343),(wrap64 (x5_1 + 1)),(by first|rfl|(simp;done)|(simp only [i64_w,i32_w];done)|(simp only [i64_w,i32_w];rfl)|(simp [*];done)|(simp [emp_bne,emp_beq];done)),H',⟨by have:=HK1.out;omega⟩,⟨by (with_reducible repeat (first|apply Kd.R_alloc|apply Kd.R_drewN|apply Kd.R_drew));exact Kd.R_mono HO345.out (fun _ hk=>trivial)⟩,⟨by repeat (first|(with_reducible first|exact HB.out|apply below_alloc|apply pw_below_drewN|apply below_drew1)|exact HB.out)⟩⟩
            ·rw [if_neg c40] at H
             exact absurd H (by simp)
           ·rw [if_neg c38] at H
            exact absurd H (by simp)
          ·rw [if_neg c37] at H
           exact absurd H (by simp)
         ·rw [if_neg c35] at H
          exact absurd H (by simp)
        ·rw [if_neg c34] at H
         exact absurd H (by simp)
     ·rw [if_neg c4] at H
      exact absurd H (by simp)
    ·rw [if_neg c3] at H
     have c3b0:decide (x5_1 < (a0.size:Int)) = false:=decide_eq_false c3
     clear c3
     simp only [Option.some.injEq,Prod.mk.injEq] at H
     obtain ⟨rfl,rfl⟩:=H
     have hcv46:=own_string (P:=Tryd.prog) Tryd.underlying30 Tryd.underlying5 Tryd.underlying9 (Kd.own_of_R HO_4.out)
     go_wp2
     go_ret2
     exact ⟨by first|rfl|(simp <;> rfl)|(simp [*] <;> rfl),by repeat (first|(with_reducible first|exact HB.out|apply below_alloc|apply pw_below_drewN|apply below_drew1)|exact HB.out)⟩

def impl_isNormal.f (k:Nat) (a0:ByteArray):Option (Bool):=(impl_EscNorm.f k a0).bind fun bt346=>(if bt346.2 = true then (some (bt346.1.toList == a0.toList)) else (some false))
theorem impl_isNormal.mono:∀ a0 k,LeO (impl_isNormal.f k a0) (impl_isNormal.f (k + 1) a0):=by
 intro a0 k
 unfold impl_isNormal.f
 repeat' first
   | (with_reducible exact impl_EscNorm.mono _ _)
   | (with_reducible exact LeO.refl _)
   | (with_reducible exact LeO.none _)
   | (with_reducible refine LeO.ite ?_ ?_)
   | (with_reducible refine LeO.bind ?_ (fun _=>?_))
   | exact impl_EscNorm.mono _ _
   | exact LeO.none _
   | refine LeO.ite ?_ ?_
   | refine LeO.bind ?_ (fun _=>?_)
theorem impl_isNormal.calls (k:Nat) (a0:ByteArray) (r:Bool) (w:World) (h:impl_isNormal.f k a0 = some r) :
  Calls Tryd.prog 37 #[.string a0] w fun e w'=>e = .returned (.bool r) ∧ Below w.heap.size w w':=by
 have HB:=Aside0.mk (Below.refl w.heap.size w)
 have H:((impl_EscNorm.f k a0).bind fun bt346=>(if bt346.2 = true then (some (bt346.1.toList == a0.toList)) else (some false))) = some r:=h
 clear h
 replace H:=Option.bind_eq_some_iff.mp H
 obtain ⟨⟨t346,t347⟩,A20,H⟩:=H
 replace H:(if t347 = true then (some (t346.toList == a0.toList)) else (some false)) = some r:=H
 have A2:=Aside0.mk A20
 clear A20
 by_cases c3:t347 = true
 ·subst c3
  have H1:(some (t346.toList == a0.toList)) = some r:=by rw [if_pos rfl] at H;exact H
  clear H
  have H:=H1
  clear H1
  obtain rfl:=Option.some.inj H
  go_enter Tryd.func37,Tryd.ntmps37
  go_wp2_with (first|((with_reducible refine gate_callee (f:=52) rfl ?_);refine goesL_ (some 7) rfl rfl Tryd.func52 (by kernel_rfl) rfl #[.string a0] rfl (by (try simp only [List.map_toArray,List.map_cons,List.map_nil]);first|done|rfl|(simp only [List.length_drop,List.length_take];rfl)) ?_;(with_reducible refine (impl_EscNorm.calls k a0 t346 true _ A2.out).mono ?_);rintro e w4 ⟨rfl,hb⟩;refine ⟨_,rfl,?_⟩;have n0_:=Aside0.mk (below_step (by repeat (first|(with_reducible first|exact HB.out|apply below_alloc|apply pw_below_drewN|apply below_drew1)|exact HB.out)) hb);clear HB;have HB:=n0_;clear n0_;(try clear hb);(try clear hb2);(try clear hk);(try clear hi)))
  go_ret
  exact ⟨by first|rfl|(simp <;> rfl)|(simp [*] <;> rfl),by repeat (first|(with_reducible first|exact HB.out|apply below_alloc|apply pw_below_drewN|apply below_drew1)|exact HB.out)⟩
 ·replace c3:=Bool.eq_false_iff.mpr c3
  subst c3
  have H1:(some false) = some r:=by rw [if_neg (show ¬ (false = true) by decide)] at H;exact H
  clear H
  have H:=H1
  clear H1
  obtain rfl:=Option.some.inj H
  go_enter Tryd.func37,Tryd.ntmps37
  go_wp2_with (first|((with_reducible refine gate_callee (f:=52) rfl ?_);refine goesL_ (some 7) rfl rfl Tryd.func52 (by kernel_rfl) rfl #[.string a0] rfl (by (try simp only [List.map_toArray,List.map_cons,List.map_nil]);first|done|rfl|(simp only [List.length_drop,List.length_take];rfl)) ?_;(with_reducible refine (impl_EscNorm.calls k a0 t346 false _ A2.out).mono ?_);rintro e w5 ⟨rfl,hb⟩;refine ⟨_,rfl,?_⟩;have n0_:=Aside0.mk (below_step (by repeat (first|(with_reducible first|exact HB.out|apply below_alloc|apply pw_below_drewN|apply below_drew1)|exact HB.out)) hb);clear HB;have HB:=n0_;clear n0_;(try clear hb);(try clear hb2);(try clear hk);(try clear hi)))
  go_ret
  exact ⟨by first|rfl|(simp <;> rfl)|(simp [*] <;> rfl),by repeat (first|(with_reducible first|exact HB.out|apply below_alloc|apply pw_below_drewN|apply below_drew1)|exact HB.out)⟩

mutual
def impl_AddrOk.j0:Nat → Bool → ByteArray → List ByteArray → Bool → ByteArray → Option (Bool)
 | 0,_,_,_,_,_=>none
 | k + 1,x14,x349000,x349001,x349002,x349003=>if x14 = true then (some false) else (impl_AddrOk.l0 k x349001 (x349001.length:Int) 0 x349000 x349001 x349002 x349003)
def impl_AddrOk.l0:Nat → List ByteArray → Int → Int → ByteArray → List ByteArray → Bool → ByteArray → Option (Bool)
 | 0,_,_,_,_,_,_,_=>none
 | k + 1,x16,x17,x18,x349000,x349001,x349002,x349003=>if x18 < x17 then (if 0 ≤ x18 then (if x18 < (x16.length:Int) then (if (rdOf ByteArray.empty x16 x18).toList = ([]:List UInt8) then (some false) else (if (rdOf ByteArray.empty x16 x18).toList = ([46]:List UInt8) then (some false) else (if (rdOf ByteArray.empty x16 x18).toList = ([46,46]:List UInt8) then (some false) else ((impl_isNormal.f k (rdOf ByteArray.empty x16 x18)).bind fun t351=>(if t351 = true then (impl_AddrOk.l0 k x16 x17 (wrap64 (x18 + 1)) x349000 x349001 x349002 x349003) else (some false)))))) else (none)) else (none)) else ((impl_isNormal.f k x349003).bind fun t352=>(if t352 = true then (if x349002 = true then ((impl_writeAddr.f x349000 x349001 x349002 x349003).bind fun t353=>(some (decide ((t353.size:Int) ≤ 60)))) else (if x349003.toList = ([]:List UInt8) then ((impl_writeAddr.f x349000 x349001 x349002 x349003).bind fun t354=>(some (decide ((t354.size:Int) ≤ 60)))) else (some false))) else (some false)))
end
def impl_AddrOk.f (k:Nat) (a0_0:ByteArray) (l0_1:List ByteArray) (a0_2:Bool) (a0_3:ByteArray):Option (Bool):=(impl_isHouse.f k a0_0).bind fun t349=>(if t349 = true then (impl_AddrOk.j0 k (decide ((l0_1.length:Int) > 5)) a0_0 l0_1 a0_2 a0_3) else (impl_AddrOk.j0 k true a0_0 l0_1 a0_2 a0_3))
theorem impl_AddrOk.mono_l:∀ k,(∀ y0 y1 y2 y3 y4,LeO (impl_AddrOk.j0 k y0 y1 y2 y3 y4) (impl_AddrOk.j0 (k + 1) y0 y1 y2 y3 y4)) ∧ (∀ y0 y1 y2 y3 y4 y5 y6,LeO (impl_AddrOk.l0 k y0 y1 y2 y3 y4 y5 y6) (impl_AddrOk.l0 (k + 1) y0 y1 y2 y3 y4 y5 y6))
 | 0=>⟨fun _ _ _ _ _ r h=>by simp [impl_AddrOk.j0] at h,fun _ _ _ _ _ _ _ r h=>by simp [impl_AddrOk.l0] at h⟩
 | k + 1=>by
  obtain ⟨ih0,ih1⟩:=impl_AddrOk.mono_l k
  refine ⟨?_,?_⟩
  ·intro y0 y1 y2 y3 y4
   unfold impl_AddrOk.j0
   repeat' first
   | (with_reducible exact ih0 _ _ _ _ _)
   | (with_reducible exact ih1 _ _ _ _ _ _ _)
   | (with_reducible exact impl_isHouse.mono _ _)
   | (with_reducible exact impl_isNormal.mono _ _)
   | (with_reducible exact LeO.refl _)
   | (with_reducible exact LeO.none _)
   | (with_reducible refine LeO.ite ?_ ?_)
   | (with_reducible refine LeO.bind ?_ (fun _=>?_))
   | exact ih0 _ _ _ _ _
   | exact ih1 _ _ _ _ _ _ _
   | exact impl_isHouse.mono _ _
   | exact impl_isNormal.mono _ _
   | exact LeO.none _
   | refine LeO.ite ?_ ?_
   | refine LeO.bind ?_ (fun _=>?_)
  ·intro y0 y1 y2 y3 y4 y5 y6
   unfold impl_AddrOk.l0
   repeat' first
   | (with_reducible exact ih0 _ _ _ _ _)
   | (with_reducible exact ih1 _ _ _ _ _ _ _)
   | (with_reducible exact impl_isHouse.mono _ _)
   | (with_reducible exact impl_isNormal.mono _ _)
   | (with_reducible exact LeO.refl _)
   | (with_reducible exact LeO.none _)
   | (with_reducible refine LeO.ite ?_ ?_)
   | (with_reducible refine LeO.bind ?_ (fun _=>?_))
   | exact ih0 _ _ _ _ _
   | exact ih1 _ _ _ _ _ _ _
   | exact impl_isHouse.mono _ _
   | exact impl_isNormal.mono _ _
   | exact LeO.none _
   | refine LeO.ite ?_ ?_
   | refine LeO.bind ?_ (fun _=>?_)
theorem impl_AddrOk.mono:∀ a0 a1 a2 a3 k,LeO (impl_AddrOk.f k a0 a1 a2 a3) (impl_AddrOk.f (k + 1) a0 a1 a2 a3):=by
 intro a0 a1 a2 a3 k
 obtain ⟨ih0,ih1⟩:=impl_AddrOk.mono_l k
 unfold impl_AddrOk.f
 repeat' first
   | (with_reducible exact ih0 _ _ _ _ _)
   | (with_reducible exact ih1 _ _ _ _ _ _ _)
   | (with_reducible exact impl_isHouse.mono _ _)
   | (with_reducible exact impl_isNormal.mono _ _)
   | (with_reducible exact LeO.refl _)
   | (with_reducible exact LeO.none _)
   | (with_reducible refine LeO.ite ?_ ?_)
   | (with_reducible refine LeO.bind ?_ (fun _=>?_))
   | exact ih0 _ _ _ _ _
   | exact ih1 _ _ _ _ _ _ _
   | exact impl_isHouse.mono _ _
   | exact impl_isNormal.mono _ _
   | exact LeO.none _
   | refine LeO.ite ?_ ?_
   | refine LeO.bind ?_ (fun _=>?_)
theorem impl_AddrOk.calls (k:Nat) (a0_0:ByteArray) (A0_1:Option Addr) (c0_1:Nat) (l0_1:List ByteArray) (a0_2:Bool) (a0_3:ByteArray) (r:Bool) (w:World) (hr0_1:Kd.C Kd.string w A0_1 l0_1.length l0_1) (hc0_1:l0_1.length ≤ c0_1) (h:impl_AddrOk.f k a0_0 l0_1 a0_2 a0_3 = some r) :
  Calls Tryd.prog 18 #[.agg #[.string a0_0, .slice A0_1 l0_1.length c0_1, .bool a0_2, .string a0_3]] w fun e w'=>e = .returned (.bool r) ∧ Below w.heap.size w w':=by
 have hu24:=Tryd.underlying24
 have HR0_1:=Aside0.mk hr0_1
 have HC0_1:=Aside0.mk hc0_1
 clear hr0_1 hc0_1
 have HB:=Aside0.mk (Below.refl w.heap.size w)
 have H:((impl_isHouse.f k a0_0).bind fun t349=>(if t349 = true then (impl_AddrOk.j0 k (decide ((l0_1.length:Int) > 5)) a0_0 l0_1 a0_2 a0_3) else (impl_AddrOk.j0 k true a0_0 l0_1 a0_2 a0_3))) = some r:=h
 clear h
 have HC2:=Aside0.mk H
 clear H
 go_enter Tryd.func18,Tryd.ntmps18
 go_upto_region 1 with (first|((with_reducible refine gate_dst (N:=1) rfl ?_);(try (refine gate_guard (by rfl) ?_;dsimp only));refine box_event ?hg (N:=1) ?hd (cs:=#[.string a0_0, .slice A0_1 l0_1.length c0_1, .bool a0_2, .string a0_3]) (t:=24) ?hr ?_;(case hd=>rfl);(case hg=>rfl);(case hr=>first|(go_simp;done)|(go_simp;rfl));intro gb348 hg w3 hbox hb;have n0_:=Aside0.mk (below_step (by repeat (first|(with_reducible first|exact HB.out|apply below_alloc|apply pw_below_drewN|apply below_drew1)|exact HB.out)) hb);have n1_:=Aside0.mk (hbox);have n2_:=Aside0.mk ((by rw [hg];exact (below_size (by repeat (first|(with_reducible first|exact HB.out|apply below_alloc|apply pw_below_drewN|apply below_drew1)|exact HB.out))):w.heap.size ≤ gb348));have n3_:=n2_;clear HB;have HB:=n0_;have BK348:=n1_;have GW348:=n2_;have GE348:=n3_;clear n0_ n1_ n2_ n3_;clear hb hbox hg))
 (try simp only [Act.put,List.setIfInBounds_toArray,List.set_cons_zero,List.set_cons_succ])
 go_cut [14] (fun v14 wc=>∃ (kq:Nat) (x14_1:Bool),v14 = .bool x14_1 ∧ Aside0 (impl_AddrOk.j0 kq x14_1 a0_0 l0_1 a0_2 a0_3 = some r) ∧ Aside0 (kq ≤ k) ∧ Aside0 (wc.heap[gb348]? = some (.cells #[.string a0_0,(.slice A0_1 l0_1.length c0_1), .bool a0_2, .string a0_3] 24 (0,0))) ∧ Aside0 (Below w.heap.size w wc))
 case first =>
  have H:=HC2.out
  clear HC2
  replace H:=Option.bind_eq_some_iff.mp H
  obtain ⟨t349,A40,H⟩:=H
  replace H:(if t349 = true then (impl_AddrOk.j0 k (decide ((l0_1.length:Int) > 5)) a0_0 l0_1 a0_2 a0_3) else (impl_AddrOk.j0 k true a0_0 l0_1 a0_2 a0_3)) = some r:=H
  have A4:=Aside0.mk A40
  clear A40
  by_cases c5:t349 = true
  ·subst c5
   have H1:(impl_AddrOk.j0 k (decide ((l0_1.length:Int) > 5)) a0_0 l0_1 a0_2 a0_3) = some r:=by rw [if_pos rfl] at H;exact H
   clear H
   have H:=H1
   clear H1
   have H':=Aside0.mk H
   clear H
   have hcz6_0:w3.cell? ⟨gb348,0,none⟩ = some (.string a0_0):=(blk_cell BK348.out 0).trans rfl
   have hcz6_1:w3.cell? ⟨gb348,1,none⟩ = some (.slice A0_1 l0_1.length c0_1):=(blk_cell BK348.out 1).trans rfl
   have hcz6_2:w3.cell? ⟨gb348,2,none⟩ = some (.bool a0_2):=(blk_cell BK348.out 2).trans rfl
   have hcz6_3:w3.cell? ⟨gb348,3,none⟩ = some (.string a0_3):=(blk_cell BK348.out 3).trans rfl
   have hfz6_0:=blk_frozen BK348.out 0
   have hfz6_1:=blk_frozen BK348.out 1
   have hfz6_2:=blk_frozen BK348.out 2
   have hfz6_3:=blk_frozen BK348.out 3
   go_wp2_with (first|((with_reducible refine gate_callee (f:=36) rfl ?_);refine goesL_ (some 7) rfl rfl Tryd.func36 (by kernel_rfl) rfl #[.string a0_0] rfl (by (try simp only [List.map_toArray,List.map_cons,List.map_nil]);first|done|rfl|(simp only [List.length_drop,List.length_take];rfl)) ?_;(with_reducible refine (impl_isHouse.calls k a0_0 true _ A4.out).mono ?_);rintro e w' ⟨rfl,⟨nd,rfl⟩⟩;refine ⟨_,rfl,?_⟩))
   go_meet
   case rel=>exact ⟨_,(decide ((l0_1.length:Int) > 5)),(by first|rfl|(simp;done)|(simp only [i64_w,i32_w];done)|(simp only [i64_w,i32_w];rfl)|(simp [*];done)|(simp [emp_bne,emp_beq];done)),H',⟨by first|omega|exact Nat.le_refl _⟩,⟨by (with_reducible repeat (first|refine blk_drewN ?_ _|refine blk_drew ?_|refine blk_alloc ?_ _));exact BK348.out⟩,⟨by repeat (first|(with_reducible first|exact HB.out|apply below_alloc|apply pw_below_drewN|apply below_drew1|refine below_set ?_ GE348.out)|exact HB.out)⟩⟩
  ·replace c5:=Bool.eq_false_iff.mpr c5
   subst c5
   have H1:(impl_AddrOk.j0 k true a0_0 l0_1 a0_2 a0_3) = some r:=by rw [if_neg (show ¬ (false = true) by decide)] at H;exact H
   clear H
   have H:=H1
   clear H1
   have H':=Aside0.mk H
   clear H
   have hcz7_0:w3.cell? ⟨gb348,0,none⟩ = some (.string a0_0):=(blk_cell BK348.out 0).trans rfl
   have hcz7_1:w3.cell? ⟨gb348,1,none⟩ = some (.slice A0_1 l0_1.length c0_1):=(blk_cell BK348.out 1).trans rfl
   have hcz7_2:w3.cell? ⟨gb348,2,none⟩ = some (.bool a0_2):=(blk_cell BK348.out 2).trans rfl
   have hcz7_3:w3.cell? ⟨gb348,3,none⟩ = some (.string a0_3):=(blk_cell BK348.out 3).trans rfl
   have hfz7_0:=blk_frozen BK348.out 0
   have hfz7_1:=blk_frozen BK348.out 1
   have hfz7_2:=blk_frozen BK348.out 2
   have hfz7_3:=blk_frozen BK348.out 3
   go_wp2_with (first|((with_reducible refine gate_callee (f:=36) rfl ?_);refine goesL_ (some 7) rfl rfl Tryd.func36 (by kernel_rfl) rfl #[.string a0_0] rfl (by (try simp only [List.map_toArray,List.map_cons,List.map_nil]);first|done|rfl|(simp only [List.length_drop,List.length_take];rfl)) ?_;(with_reducible refine (impl_isHouse.calls k a0_0 false _ A4.out).mono ?_);rintro e w' ⟨rfl,⟨nd,rfl⟩⟩;refine ⟨_,rfl,?_⟩))
   go_meet
   case rel=>exact ⟨_,(true),(by first|rfl|(simp;done)|(simp only [i64_w,i32_w];done)|(simp only [i64_w,i32_w];rfl)|(simp [*];done)|(simp [emp_bne,emp_beq];done)),H',⟨by first|omega|exact Nat.le_refl _⟩,⟨by (with_reducible repeat (first|refine blk_drewN ?_ _|refine blk_drew ?_|refine blk_alloc ?_ _));exact BK348.out⟩,⟨by repeat (first|(with_reducible first|exact HB.out|apply below_alloc|apply pw_below_drewN|apply below_drew1|refine below_set ?_ GE348.out)|exact HB.out)⟩⟩
 case rest =>
  clear HC2
  try clear c1
  try clear p2
  try clear c3
  try clear c5
  try clear hcz6_0
  try clear hcz6_1
  try clear hcz6_2
  try clear hcz6_3
  try clear hcz7_0
  try clear hcz7_1
  try clear hcz7_2
  try clear hcz7_3
  try clear hfz6_0
  try clear hfz6_1
  try clear hfz6_2
  try clear hfz6_3
  try clear hfz7_0
  try clear hfz7_1
  try clear hfz7_2
  try clear hfz7_3
  obtain ⟨kq,x14_1,rfl,HA,HJ1,BK348,HB⟩:=hcut
  cases kq with
  | zero=>exact absurd HA.out (by simp [impl_AddrOk.j0])
  | succ kj1 =>
   have H:=HA.out
   clear HA
   simp only [impl_AddrOk.j0] at H
   by_cases c8:x14_1 = true
   ·subst c8
    have H1:(some false) = some r:=by rw [if_pos rfl] at H;exact H
    clear H
    have H:=H1
    clear H1
    obtain rfl:=Option.some.inj H
    go_wp2
    go_ret
    exact ⟨by first|rfl|(simp <;> rfl)|(simp [*] <;> rfl),by repeat (first|(with_reducible first|exact HB.out|apply below_alloc|apply pw_below_drewN|apply below_drew1|refine below_set ?_ GE348.out)|exact HB.out)⟩
   ·replace c8:=Bool.eq_false_iff.mpr c8
    subst c8
    have H1:(impl_AddrOk.l0 kj1 l0_1 (l0_1.length:Int) 0 a0_0 l0_1 a0_2 a0_3) = some r:=by rw [if_neg (show ¬ (false = true) by decide)] at H;exact H
    clear H
    have H:=H1
    clear H1
    have H':=Aside0.mk H
    clear H
    have hcz9_0:wc.cell? ⟨gb348,0,none⟩ = some (.string a0_0):=(blk_cell BK348.out 0).trans rfl
    have hcz9_1:wc.cell? ⟨gb348,1,none⟩ = some (.slice A0_1 l0_1.length c0_1):=(blk_cell BK348.out 1).trans rfl
    have hcz9_2:wc.cell? ⟨gb348,2,none⟩ = some (.bool a0_2):=(blk_cell BK348.out 2).trans rfl
    have hcz9_3:wc.cell? ⟨gb348,3,none⟩ = some (.string a0_3):=(blk_cell BK348.out 3).trans rfl
    have hfz9_0:=blk_frozen BK348.out 0
    have hfz9_1:=blk_frozen BK348.out 1
    have hfz9_2:=blk_frozen BK348.out 2
    have hfz9_3:=blk_frozen BK348.out 3
    go_wp2
    go_loopg [18] kj1 (fun kq v18 w'=>∃ (x18_2:Int),v18 = .int .i64 x18_2 ∧ Aside0 (impl_AddrOk.l0 kq l0_1 (l0_1.length:Int) x18_2 a0_0 l0_1 a0_2 a0_3 = some r) ∧ Aside0 (kq ≤ kj1) ∧ Aside0 (w'.heap[gb348]? = some (.cells #[.string a0_0,(.slice A0_1 l0_1.length c0_1), .bool a0_2, .string a0_3] 24 (0,0))) ∧ Aside0 (Below w.heap.size w w'))
    case atStart=>exact ⟨(0),(by first|rfl|(simp;done)|(simp only [i64_w,i32_w];done)|(simp only [i64_w,i32_w];rfl)|(simp [*];done)|(simp [emp_bne,emp_beq];done)),H',⟨Nat.le_refl _⟩,⟨by (with_reducible repeat (first|refine blk_drewN ?_ _|refine blk_drew ?_|refine blk_alloc ?_ _));exact BK348.out⟩,⟨by repeat (first|(with_reducible first|exact HB.out|apply below_alloc|apply pw_below_drewN|apply below_drew1|refine below_set ?_ GE348.out)|exact HB.out)⟩⟩
    case round =>
     clear H'
     try clear c1
     try clear p2
     try clear c3
     try clear c5
     try clear c8
     try clear hcz6_0
     try clear hcz6_1
     try clear hcz6_2
     try clear hcz6_3
     try clear hcz7_0
     try clear hcz7_1
     try clear hcz7_2
     try clear hcz7_3
     try clear hcz9_0
     try clear hcz9_1
     try clear hcz9_2
     try clear hcz9_3
     try clear hfz6_0
     try clear hfz6_1
     try clear hfz6_2
     try clear hfz6_3
     try clear hfz7_0
     try clear hfz7_1
     try clear hfz7_2
     try clear hfz7_3
     try clear hfz9_0
     try clear hfz9_1
     try clear hfz9_2
     try clear hfz9_3
     try clear p2
     obtain ⟨x18_2,rfl,HA,HK2,BK348,HB⟩:=hrel
     cases gk with
     | zero=>exact absurd HA.out (by simp [impl_AddrOk.l0])
     | succ k2 =>
      have H:=HA.out
      clear HA
      simp only [impl_AddrOk.l0] at H
      by_cases c10:x18_2 < (l0_1.length:Int)
      ·rw [if_pos c10] at H
       have c10b0:decide (x18_2 < (l0_1.length:Int)) = true:=decide_eq_true c10
       clear c10
       by_cases c11:0 ≤ x18_2
       ·rw [if_pos c11] at H
        have c11b0:decide (0 ≤ x18_2) = true:=decide_eq_true c11
        clear c11
        by_cases c12:x18_2 < (l0_1.length:Int)
        ·rw [if_pos c12] at H
         have c12b0:decide (x18_2 < (l0_1.length:Int)) = true:=decide_eq_true c12
         clear c12
         by_cases c13:(rdOf ByteArray.empty l0_1 x18_2).toList = ([]:List UInt8)
         ·rw [if_pos c13] at H
          (try (have c13b0:(rdOf ByteArray.empty l0_1 x18_2).toList.isEmpty = true:=by simpa using c13))
          have c13b1:((rdOf ByteArray.empty l0_1 x18_2).toList == ([]:List UInt8)) = true:=beq_iff_eq.mpr c13
          have c13b2:((rdOf ByteArray.empty l0_1 x18_2).toList != ([]:List UInt8)) = false:=bne_eq_false_iff_eq.mpr c13
          clear c13
          obtain rfl:=Option.some.inj H
          have p350:0 ≤ (x18_2:Int):=of_decide_eq_true (by first|(with_reducible assumption)|assumption)
          have q350:x18_2 < (l0_1.length:Int):=of_decide_eq_true (by first|(with_reducible assumption)|assumption)
          obtain ⟨ad350,e350,hx350_0⟩:=Kd.at_string HR0_1.out x18_2 p350 q350
          cases e350
          replace hx350_0:=(HB.out.cell (World.block_lt_of_cell? w _ hx350_0)).trans hx350_0
          replace p350:=eq_true p350
          replace q350:=eq_true q350
          go_wp2
          go_ret
          exact ⟨by first|rfl|(simp <;> rfl)|(simp [*] <;> rfl),by repeat (first|(with_reducible first|exact HB.out|apply below_alloc|apply pw_below_drewN|apply below_drew1|refine below_set ?_ GE348.out)|exact HB.out)⟩
         ·rw [if_neg c13] at H
          (try (have c13b0:(rdOf ByteArray.empty l0_1 x18_2).toList.isEmpty = false:=by simpa using c13))
          have c13b1:((rdOf ByteArray.empty l0_1 x18_2).toList == ([]:List UInt8)) = false:=beq_eq_false_iff_ne.mpr c13
          have c13b2:((rdOf ByteArray.empty l0_1 x18_2).toList != ([]:List UInt8)) = true:=bne_iff_ne.mpr c13
          by_cases c14:(rdOf ByteArray.empty l0_1 x18_2).toList = ([46]:List UInt8)
          ·rw [if_pos c14] at H
           have c14b0:((rdOf ByteArray.empty l0_1 x18_2).toList == ([46]:List UInt8)) = true:=beq_iff_eq.mpr c14
           have c14b1:((rdOf ByteArray.empty l0_1 x18_2).toList != ([46]:List UInt8)) = false:=bne_eq_false_iff_eq.mpr c14
           clear c14
           obtain rfl:=Option.some.inj H
           have p350:0 ≤ (x18_2:Int):=of_decide_eq_true (by first|(with_reducible assumption)|assumption)
           have q350:x18_2 < (l0_1.length:Int):=of_decide_eq_true (by first|(with_reducible assumption)|assumption)
           obtain ⟨ad350,e350,hx350_0⟩:=Kd.at_string HR0_1.out x18_2 p350 q350
           cases e350
           replace hx350_0:=(HB.out.cell (World.block_lt_of_cell? w _ hx350_0)).trans hx350_0
           replace p350:=eq_true p350
           replace q350:=eq_true q350
           go_wp2
           go_ret
           exact ⟨by first|rfl|(simp <;> rfl)|(simp [*] <;> rfl),by repeat (first|(with_reducible first|exact HB.out|apply below_alloc|apply pw_below_drewN|apply below_drew1|refine below_set ?_ GE348.out)|exact HB.out)⟩
          ·rw [if_neg c14] at H
           have c14b0:((rdOf ByteArray.empty l0_1 x18_2).toList == ([46]:List UInt8)) = false:=beq_eq_false_iff_ne.mpr c14
           have c14b1:((rdOf ByteArray.empty l0_1 x18_2).toList != ([46]:List UInt8)) = true:=bne_iff_ne.mpr c14
           by_cases c15:(rdOf ByteArray.empty l0_1 x18_2).toList = ([46,46]:List UInt8)
           ·rw [if_pos c15] at H
            have c15b0:((rdOf ByteArray.empty l0_1 x18_2).toList == ([46,46]:List UInt8)) = true:=beq_iff_eq.mpr c15
            have c15b1:((rdOf ByteArray.empty l0_1 x18_2).toList != ([46,46]:List UInt8)) = false:=bne_eq_false_iff_eq.mpr c15
            clear c15
            obtain rfl:=Option.some.inj H
            have p350:0 ≤ (x18_2:Int):=of_decide_eq_true (by first|(with_reducible assumption)|assumption)
            have q350:x18_2 < (l0_1.length:Int):=of_decide_eq_true (by first|(with_reducible assumption)|assumption)
            obtain ⟨ad350,e350,hx350_0⟩:=Kd.at_string HR0_1.out x18_2 p350 q350
            cases e350
            replace hx350_0:=(HB.out.cell (World.block_lt_of_cell? w _ hx350_0)).trans hx350_0
            replace p350:=eq_true p350
            replace q350:=eq_true q350
            go_wp2
            go_ret
            exact ⟨by first|rfl|(simp <;> rfl)|(simp [*] <;> rfl),by repeat (first|(with_reducible first|exact HB.out|apply below_alloc|apply pw_below_drewN|apply below_drew1|refine below_set ?_ GE348.out)|exact HB.out)⟩
           ·rw [if_neg c15] at H
            have c15b0:((rdOf ByteArray.empty l0_1 x18_2).toList == ([46,46]:List UInt8)) = false:=beq_eq_false_iff_ne.mpr c15
            have c15b1:((rdOf ByteArray.empty l0_1 x18_2).toList != ([46,46]:List UInt8)) = true:=bne_iff_ne.mpr c15
            replace H:=Option.bind_eq_some_iff.mp H
            obtain ⟨t351,A160,H⟩:=H
            replace H:(if t351 = true then (impl_AddrOk.l0 k2 l0_1 (l0_1.length:Int) (wrap64 (x18_2 + 1)) a0_0 l0_1 a0_2 a0_3) else (some false)) = some r:=H
            have A16:=Aside0.mk A160
            clear A160
            by_cases c17:t351 = true
            ·subst c17
             have H1:(impl_AddrOk.l0 k2 l0_1 (l0_1.length:Int) (wrap64 (x18_2 + 1)) a0_0 l0_1 a0_2 a0_3) = some r:=by rw [if_pos rfl] at H;exact H
             clear H
             have H:=H1
             clear H1
             have H':=Aside0.mk H
             clear H
             have p350:0 ≤ (x18_2:Int):=of_decide_eq_true (by first|(with_reducible assumption)|assumption)
             have q350:x18_2 < (l0_1.length:Int):=of_decide_eq_true (by first|(with_reducible assumption)|assumption)
             obtain ⟨ad350,e350,hx350_0⟩:=Kd.at_string HR0_1.out x18_2 p350 q350
             cases e350
             replace hx350_0:=(HB.out.cell (World.block_lt_of_cell? w _ hx350_0)).trans hx350_0
             replace p350:=eq_true p350
             replace q350:=eq_true q350
             go_wp2_with (first|(go_at_call 37;(with_reducible refine (impl_isNormal.calls k2 (rdOf ByteArray.empty l0_1 x18_2) true _ A16.out).mono ?_);rintro e w18 ⟨rfl,hb⟩;have n0_:=Aside0.mk (blk_below (g:=gb348) (o:=.cells #[.string a0_0, .slice (some ad350) l0_1.length c0_1, .bool a0_2, .string a0_3] 24 (0,0)) (by (with_reducible repeat (first|refine blk_drewN ?_ _|refine blk_drew ?_|refine blk_alloc ?_ _));exact BK348.out) hb);have n1_:=Aside0.mk (below_step (by repeat (first|(with_reducible first|exact HB.out|apply below_alloc|apply pw_below_drewN|apply below_drew1|refine below_set ?_ GE348.out)|exact HB.out)) hb);clear BK348;clear HB;have BK348:=n0_;have HB:=n1_;clear n0_ n1_;(try clear hb);(try clear hb2);(try clear hk);(try clear hi)))
             go_roundg k2
             case measure=>have:=HJ1.out;have:=HK2.out;omega
             case rel=>exact ⟨(wrap64 (x18_2 + 1)),(by first|rfl|(simp;done)|(simp only [i64_w,i32_w];done)|(simp only [i64_w,i32_w];rfl)|(simp [*];done)|(simp [emp_bne,emp_beq];done)),H',⟨by have:=HJ1.out;have:=HK2.out;omega⟩,⟨by (with_reducible repeat (first|refine blk_drewN ?_ _|refine blk_drew ?_|refine blk_alloc ?_ _));exact BK348.out⟩,⟨by repeat (first|(with_reducible first|exact HB.out|apply below_alloc|apply pw_below_drewN|apply below_drew1|refine below_set ?_ GE348.out)|exact HB.out)⟩⟩
            ·replace c17:=Bool.eq_false_iff.mpr c17
             subst c17
             have H1:(some false) = some r:=by rw [if_neg (show ¬ (false = true) by decide)] at H;exact H
             clear H
             have H:=H1
             clear H1
             obtain rfl:=Option.some.inj H
             have p350:0 ≤ (x18_2:Int):=of_decide_eq_true (by first|(with_reducible assumption)|assumption)
             have q350:x18_2 < (l0_1.length:Int):=of_decide_eq_true (by first|(with_reducible assumption)|assumption)
             obtain ⟨ad350,e350,hx350_0⟩:=Kd.at_string HR0_1.out x18_2 p350 q350
             cases e350
             replace hx350_0:=(HB.out.cell (World.block_lt_of_cell? w _ hx350_0)).trans hx350_0
             replace p350:=eq_true p350
             replace q350:=eq_true q350
             go_wp2_with (first|(go_at_call 37;(with_reducible refine (impl_isNormal.calls k2 (rdOf ByteArray.empty l0_1 x18_2) false _ A16.out).mono ?_);rintro e w19 ⟨rfl,hb⟩;have n0_:=Aside0.mk (blk_below (g:=gb348) (o:=.cells #[.string a0_0, .slice (some ad350) l0_1.length c0_1, .bool a0_2, .string a0_3] 24 (0,0)) (by (with_reducible repeat (first|refine blk_drewN ?_ _|refine blk_drew ?_|refine blk_alloc ?_ _));exact BK348.out) hb);have n1_:=Aside0.mk (below_step (by repeat (first|(with_reducible first|exact HB.out|apply below_alloc|apply pw_below_drewN|apply below_drew1|refine below_set ?_ GE348.out)|exact HB.out)) hb);clear BK348;clear HB;have BK348:=n0_;have HB:=n1_;clear n0_ n1_;(try clear hb);(try clear hb2);(try clear hk);(try clear hi)))
             go_ret
             exact ⟨by first|rfl|(simp <;> rfl)|(simp [*] <;> rfl),by repeat (first|(with_reducible first|exact HB.out|apply below_alloc|apply pw_below_drewN|apply below_drew1|refine below_set ?_ GE348.out)|exact HB.out)⟩
        ·rw [if_neg c12] at H
         exact absurd H (by simp)
       ·rw [if_neg c11] at H
        exact absurd H (by simp)
      ·rw [if_neg c10] at H
       have c10b0:decide (x18_2 < (l0_1.length:Int)) = false:=decide_eq_false c10
       clear c10
       replace H:=Option.bind_eq_some_iff.mp H
       obtain ⟨t352,A200,H⟩:=H
       replace H:(if t352 = true then (if a0_2 = true then ((impl_writeAddr.f a0_0 l0_1 a0_2 a0_3).bind fun t353=>(some (decide ((t353.size:Int) ≤ 60)))) else (if a0_3.toList = ([]:List UInt8) then ((impl_writeAddr.f a0_0 l0_1 a0_2 a0_3).bind fun t354=>(some (decide ((t354.size:Int) ≤ 60)))) else (some false))) else (some false)) = some r:=H
       have A20:=Aside0.mk A200
       clear A200
       by_cases c21:t352 = true
       ·subst c21
        have H1:(if a0_2 = true then ((impl_writeAddr.f a0_0 l0_1 a0_2 a0_3).bind fun t353=>(some (decide ((t353.size:Int) ≤ 60)))) else (if a0_3.toList = ([]:List UInt8) then ((impl_writeAddr.f a0_0 l0_1 a0_2 a0_3).bind fun t354=>(some (decide ((t354.size:Int) ≤ 60)))) else (some false))) = some r:=by rw [if_pos rfl] at H;exact H
        clear H
        have H:=H1
        clear H1
        by_cases c22:a0_2 = true
        ·subst c22
         have H1:((impl_writeAddr.f a0_0 l0_1 true a0_3).bind fun t353=>(some (decide ((t353.size:Int) ≤ 60)))) = some r:=by rw [if_pos rfl] at H;exact H
         clear H
         have H:=H1
         clear H1
         replace H:=Option.bind_eq_some_iff.mp H
         obtain ⟨t353,A230,H⟩:=H
         replace H:(some (decide ((t353.size:Int) ≤ 60))) = some r:=H
         have A23:=Aside0.mk A230
         clear A230
         obtain rfl:=Option.some.inj H
         have hcz24_0:wr.cell? ⟨gb348,0,none⟩ = some (.string a0_0):=(blk_cell BK348.out 0).trans rfl
         have hcz24_1:wr.cell? ⟨gb348,1,none⟩ = some (.slice A0_1 l0_1.length c0_1):=(blk_cell BK348.out 1).trans rfl
         have hcz24_2:wr.cell? ⟨gb348,2,none⟩ = some (.bool true):=(blk_cell BK348.out 2).trans rfl
         have hcz24_3:wr.cell? ⟨gb348,3,none⟩ = some (.string a0_3):=(blk_cell BK348.out 3).trans rfl
         have hfz24_0:=blk_frozen BK348.out 0
         have hfz24_1:=blk_frozen BK348.out 1
         have hfz24_2:=blk_frozen BK348.out 2
         have hfz24_3:=blk_frozen BK348.out 3
         go_wp2_with (first|((with_reducible refine gate_callee (f:=37) rfl ?_);refine goesL_ (some 40) rfl rfl Tryd.func37 (by kernel_rfl) rfl #[.string a0_3] rfl (by (try simp only [List.map_toArray,List.map_cons,List.map_nil]);first|done|rfl|(simp only [List.length_drop,List.length_take];rfl)) ?_;(with_reducible refine (impl_isNormal.calls k2 a0_3 true _ A20.out).mono ?_);rintro e w25 ⟨rfl,hb⟩;refine ⟨_,rfl,?_⟩;have n0_:=Aside0.mk (blk_below (g:=gb348) (o:=.cells #[.string a0_0, .slice A0_1 l0_1.length c0_1, .bool true, .string a0_3] 24 (0,0)) (by (with_reducible repeat (first|refine blk_drewN ?_ _|refine blk_drew ?_|refine blk_alloc ?_ _));exact BK348.out) hb);have n1_:=Aside0.mk (below_step (by repeat (first|(with_reducible first|exact HB.out|apply below_alloc|apply pw_below_drewN|apply below_drew1|refine below_set ?_ GE348.out)|exact HB.out)) hb);clear BK348;clear HB;have BK348:=n0_;have HB:=n1_;clear n0_ n1_;(try clear hb);(try clear hb2);(try clear hk);(try clear hi);have hcz26_0:w25.cell? ⟨gb348,0,none⟩ = some (.string a0_0):=(blk_cell BK348.out 0).trans rfl;have hcz26_1:w25.cell? ⟨gb348,1,none⟩ = some (.slice A0_1 l0_1.length c0_1):=(blk_cell BK348.out 1).trans rfl;have hcz26_2:w25.cell? ⟨gb348,2,none⟩ = some (.bool true):=(blk_cell BK348.out 2).trans rfl;have hcz26_3:w25.cell? ⟨gb348,3,none⟩ = some (.string a0_3):=(blk_cell BK348.out 3).trans rfl;have hfz26_0:=blk_frozen BK348.out 0;have hfz26_1:=blk_frozen BK348.out 1;have hfz26_2:=blk_frozen BK348.out 2;have hfz26_3:=blk_frozen BK348.out 3)|((with_reducible refine gate_callee (f:=28) rfl ?_);refine goesL_ (some 53) rfl rfl Tryd.func28 (by kernel_rfl) rfl #[.agg #[.string a0_0, .slice A0_1 l0_1.length c0_1, .bool true, .string a0_3]] rfl (by (try simp only [List.map_toArray,List.map_cons,List.map_nil]);first|done|rfl|(simp only [List.length_drop,List.length_take];rfl)) ?_;(with_reducible refine (impl_writeAddr.calls a0_0 _ _ l0_1 true a0_3 t353 _ ?side1 ?side2 A23.out).mono ?_);(case side1=>repeat (first|exact (Kd.C_below HR0_1.out HB.out)|(with_reducible refine Kd.C_alloc ?_ _)|(with_reducible refine Kd.C_drewN ?_ _)|(with_reducible refine Kd.C_drew ?_)));(case side2=>exact HC0_1.out);rintro e w27 ⟨rfl,hb⟩;refine ⟨_,rfl,?_⟩;have n0_:=Aside0.mk (blk_below (g:=gb348) (o:=.cells #[.string a0_0, .slice A0_1 l0_1.length c0_1, .bool true, .string a0_3] 24 (0,0)) (by (with_reducible repeat (first|refine blk_drewN ?_ _|refine blk_drew ?_|refine blk_alloc ?_ _));exact BK348.out) hb);have n1_:=Aside0.mk (below_step (by repeat (first|(with_reducible first|exact HB.out|apply below_alloc|apply pw_below_drewN|apply below_drew1|refine below_set ?_ GE348.out)|exact HB.out)) hb);clear BK348;clear HB;have BK348:=n0_;have HB:=n1_;clear n0_ n1_;(try clear hb);(try clear hb2);(try clear hk);(try clear hi)))
         go_ret
         exact ⟨by first|rfl|(simp <;> rfl)|(simp [*] <;> rfl),by repeat (first|(with_reducible first|exact HB.out|apply below_alloc|apply pw_below_drewN|apply below_drew1|refine below_set ?_ GE348.out)|exact HB.out)⟩
        ·replace c22:=Bool.eq_false_iff.mpr c22
         subst c22
         have H1:(if a0_3.toList = ([]:List UInt8) then ((impl_writeAddr.f a0_0 l0_1 false a0_3).bind fun t354=>(some (decide ((t354.size:Int) ≤ 60)))) else (some false)) = some r:=by rw [if_neg (show ¬ (false = true) by decide)] at H;exact H
         clear H
         have H:=H1
         clear H1
         by_cases c28:a0_3.toList = ([]:List UInt8)
         ·rw [if_pos c28] at H
          (try (have c28b0:a0_3.toList.isEmpty = true:=by simpa using c28))
          have c28b1:(a0_3.toList == ([]:List UInt8)) = true:=beq_iff_eq.mpr c28
          have c28b2:(a0_3.toList != ([]:List UInt8)) = false:=bne_eq_false_iff_eq.mpr c28
          clear c28
          replace H:=Option.bind_eq_some_iff.mp H
          obtain ⟨t354,A290,H⟩:=H
          replace H:(some (decide ((t354.size:Int) ≤ 60))) = some r:=H
          have A29:=Aside0.mk A290
          clear A290
          obtain rfl:=Option.some.inj H
          have hcz30_0:wr.cell? ⟨gb348,0,none⟩ = some (.string a0_0):=(blk_cell BK348.out 0).trans rfl
          have hcz30_1:wr.cell? ⟨gb348,1,none⟩ = some (.slice A0_1 l0_1.length c0_1):=(blk_cell BK348.out 1).trans rfl
          have hcz30_2:wr.cell? ⟨gb348,2,none⟩ = some (.bool false):=(blk_cell BK348.out 2).trans rfl
          have hcz30_3:wr.cell? ⟨gb348,3,none⟩ = some (.string a0_3):=(blk_cell BK348.out 3).trans rfl
          have hfz30_0:=blk_frozen BK348.out 0
          have hfz30_1:=blk_frozen BK348.out 1
          have hfz30_2:=blk_frozen BK348.out 2
          have hfz30_3:=blk_frozen BK348.out 3
          go_wp2_with (first|((with_reducible refine gate_callee (f:=37) rfl ?_);refine goesL_ (some 40) rfl rfl Tryd.func37 (by kernel_rfl) rfl #[.string a0_3] rfl (by (try simp only [List.map_toArray,List.map_cons,List.map_nil]);first|done|rfl|(simp only [List.length_drop,List.length_take];rfl)) ?_;(with_reducible refine (impl_isNormal.calls k2 a0_3 true _ A20.out).mono ?_);rintro e w31 ⟨rfl,hb⟩;refine ⟨_,rfl,?_⟩;have n0_:=Aside0.mk (blk_below (g:=gb348) (o:=.cells #[.string a0_0, .slice A0_1 l0_1.length c0_1, .bool false, .string a0_3] 24 (0,0)) (by (with_reducible repeat (first|refine blk_drewN ?_ _|refine blk_drew ?_|refine blk_alloc ?_ _));exact BK348.out) hb);have n1_:=Aside0.mk (below_step (by repeat (first|(with_reducible first|exact HB.out|apply below_alloc|apply pw_below_drewN|apply below_drew1|refine below_set ?_ GE348.out)|exact HB.out)) hb);clear BK348;clear HB;have BK348:=n0_;have HB:=n1_;clear n0_ n1_;(try clear hb);(try clear hb2);(try clear hk);(try clear hi);have hcz32_0:w31.cell? ⟨gb348,0,none⟩ = some (.string a0_0):=(blk_cell BK348.out 0).trans rfl;have hcz32_1:w31.cell? ⟨gb348,1,none⟩ = some (.slice A0_1 l0_1.length c0_1):=(blk_cell BK348.out 1).trans rfl;have hcz32_2:w31.cell? ⟨gb348,2,none⟩ = some (.bool false):=(blk_cell BK348.out 2).trans rfl;have hcz32_3:w31.cell? ⟨gb348,3,none⟩ = some (.string a0_3):=(blk_cell BK348.out 3).trans rfl;have hfz32_0:=blk_frozen BK348.out 0;have hfz32_1:=blk_frozen BK348.out 1;have hfz32_2:=blk_frozen BK348.out 2;have hfz32_3:=blk_frozen BK348.out 3)|((with_reducible refine gate_callee (f:=28) rfl ?_);refine goesL_ (some 53) rfl rfl Tryd.func28 (by kernel_rfl) rfl #[.agg #[.string a0_0, .slice A0_1 l0_1.length c0_1, .bool false, .string a0_3]] rfl (by (try simp only [List.map_toArray,List.map_cons,List.map_nil]);first|done|rfl|(simp only [List.length_drop,List.length_take];rfl)) ?_;(with_reducible refine (impl_writeAddr.calls a0_0 _ _ l0_1 false a0_3 t354 _ ?side1 ?side2 A29.out).mono ?_);(case side1=>repeat (first|exact (Kd.C_below HR0_1.out HB.out)|(with_reducible refine Kd.C_alloc ?_ _)|(with_reducible refine Kd.C_drewN ?_ _)|(with_reducible refine Kd.C_drew ?_)));(case side2=>exact HC0_1.out);rintro e w33 ⟨rfl,hb⟩;refine ⟨_,rfl,?_⟩;have n0_:=Aside0.mk (blk_below (g:=gb348) (o:=.cells #[.string a0_0, .slice A0_1 l0_1.length c0_1, .bool false, .string a0_3] 24 (0,0)) (by (with_reducible repeat (first|refine blk_drewN ?_ _|refine blk_drew ?_|refine blk_alloc ?_ _));exact BK348.out) hb);have n1_:=Aside0.mk (below_step (by repeat (first|(with_reducible first|exact HB.out|apply below_alloc|apply pw_below_drewN|apply below_drew1|refine below_set ?_ GE348.out)|exact HB.out)) hb);clear BK348;clear HB;have BK348:=n0_;have HB:=n1_;clear n0_ n1_;(try clear hb);(try clear hb2);(try clear hk);(try clear hi)))
          go_ret
          exact ⟨by first|rfl|(simp <;> rfl)|(simp [*] <;> rfl),by repeat (first|(with_reducible first|exact HB.out|apply below_alloc|apply pw_below_drewN|apply below_drew1|refine below_set ?_ GE348.out)|exact HB.out)⟩
         ·rw [if_neg c28] at H
          (try (have c28b0:a0_3.toList.isEmpty = false:=by simpa using c28))
          have c28b1:(a0_3.toList == ([]:List UInt8)) = false:=beq_eq_false_iff_ne.mpr c28
          have c28b2:(a0_3.toList != ([]:List UInt8)) = true:=bne_iff_ne.mpr c28
          obtain rfl:=Option.some.inj H
          have hcz34_0:wr.cell? ⟨gb348,0,none⟩ = some (.string a0_0):=(blk_cell BK348.out 0).trans rfl
          have hcz34_1:wr.cell? ⟨gb348,1,none⟩ = some (.slice A0_1 l0_1.length c0_1):=(blk_cell BK348.out 1).trans rfl
          have hcz34_2:wr.cell? ⟨gb348,2,none⟩ = some (.bool false):=(blk_cell BK348.out 2).trans rfl
          have hcz34_3:wr.cell? ⟨gb348,3,none⟩ = some (.string a0_3):=(blk_cell BK348.out 3).trans rfl
          have hfz34_0:=blk_frozen BK348.out 0
          have hfz34_1:=blk_frozen BK348.out 1
          have hfz34_2:=blk_frozen BK348.out 2
          have hfz34_3:=blk_frozen BK348.out 3
          go_wp2_with (first|((with_reducible refine gate_callee (f:=37) rfl ?_);refine goesL_ (some 40) rfl rfl Tryd.func37 (by kernel_rfl) rfl #[.string a0_3] rfl (by (try simp only [List.map_toArray,List.map_cons,List.map_nil]);first|done|rfl|(simp only [List.length_drop,List.length_take];rfl)) ?_;(with_reducible refine (impl_isNormal.calls k2 a0_3 true _ A20.out).mono ?_);rintro e w35 ⟨rfl,hb⟩;refine ⟨_,rfl,?_⟩;have n0_:=Aside0.mk (blk_below (g:=gb348) (o:=.cells #[.string a0_0, .slice A0_1 l0_1.length c0_1, .bool false, .string a0_3] 24 (0,0)) (by (with_reducible repeat (first|refine blk_drewN ?_ _|refine blk_drew ?_|refine blk_alloc ?_ _));exact BK348.out) hb);have n1_:=Aside0.mk (below_step (by repeat (first|(with_reducible first|exact HB.out|apply below_alloc|apply pw_below_drewN|apply below_drew1|refine below_set ?_ GE348.out)|exact HB.out)) hb);clear BK348;clear HB;have BK348:=n0_;have HB:=n1_;clear n0_ n1_;(try clear hb);(try clear hb2);(try clear hk);(try clear hi);have hcz36_0:w35.cell? ⟨gb348,0,none⟩ = some (.string a0_0):=(blk_cell BK348.out 0).trans rfl;have hcz36_1:w35.cell? ⟨gb348,1,none⟩ = some (.slice A0_1 l0_1.length c0_1):=(blk_cell BK348.out 1).trans rfl;have hcz36_2:w35.cell? ⟨gb348,2,none⟩ = some (.bool false):=(blk_cell BK348.out 2).trans rfl;have hcz36_3:w35.cell? ⟨gb348,3,none⟩ = some (.string a0_3):=(blk_cell BK348.out 3).trans rfl;have hfz36_0:=blk_frozen BK348.out 0;have hfz36_1:=blk_frozen BK348.out 1;have hfz36_2:=blk_frozen BK348.out 2;have hfz36_3:=blk_frozen BK348.out 3))
          go_ret
          exact ⟨by first|rfl|(simp <;> rfl)|(simp [*] <;> rfl),by repeat (first|(with_reducible first|exact HB.out|apply below_alloc|apply pw_below_drewN|apply below_drew1|refine below_set ?_ GE348.out)|exact HB.out)⟩
       ·replace c21:=Bool.eq_false_iff.mpr c21
        subst c21
        have H1:(some false) = some r:=by rw [if_neg (show ¬ (false = true) by decide)] at H;exact H
        clear H
        have H:=H1
        clear H1
        obtain rfl:=Option.some.inj H
        have hcz37_0:wr.cell? ⟨gb348,0,none⟩ = some (.string a0_0):=(blk_cell BK348.out 0).trans rfl
        have hcz37_1:wr.cell? ⟨gb348,1,none⟩ = some (.slice A0_1 l0_1.length c0_1):=(blk_cell BK348.out 1).trans rfl
        have hcz37_2:wr.cell? ⟨gb348,2,none⟩ = some (.bool a0_2):=(blk_cell BK348.out 2).trans rfl
        have hcz37_3:wr.cell? ⟨gb348,3,none⟩ = some (.string a0_3):=(blk_cell BK348.out 3).trans rfl
        have hfz37_0:=blk_frozen BK348.out 0
        have hfz37_1:=blk_frozen BK348.out 1
        have hfz37_2:=blk_frozen BK348.out 2
        have hfz37_3:=blk_frozen BK348.out 3
        go_wp2_with (first|((with_reducible refine gate_callee (f:=37) rfl ?_);refine goesL_ (some 40) rfl rfl Tryd.func37 (by kernel_rfl) rfl #[.string a0_3] rfl (by (try simp only [List.map_toArray,List.map_cons,List.map_nil]);first|done|rfl|(simp only [List.length_drop,List.length_take];rfl)) ?_;(with_reducible refine (impl_isNormal.calls k2 a0_3 false _ A20.out).mono ?_);rintro e w38 ⟨rfl,hb⟩;refine ⟨_,rfl,?_⟩;have n0_:=Aside0.mk (blk_below (g:=gb348) (o:=.cells #[.string a0_0, .slice A0_1 l0_1.length c0_1, .bool a0_2, .string a0_3] 24 (0,0)) (by (with_reducible repeat (first|refine blk_drewN ?_ _|refine blk_drew ?_|refine blk_alloc ?_ _));exact BK348.out) hb);have n1_:=Aside0.mk (below_step (by repeat (first|(with_reducible first|exact HB.out|apply below_alloc|apply pw_below_drewN|apply below_drew1|refine below_set ?_ GE348.out)|exact HB.out)) hb);clear BK348;clear HB;have BK348:=n0_;have HB:=n1_;clear n0_ n1_;(try clear hb);(try clear hb2);(try clear hk);(try clear hi)))
        go_ret
        exact ⟨by first|rfl|(simp <;> rfl)|(simp [*] <;> rfl),by repeat (first|(with_reducible first|exact HB.out|apply below_alloc|apply pw_below_drewN|apply below_drew1|refine below_set ?_ GE348.out)|exact HB.out)⟩

/-- The same strings, in new memory. -/
def slices_Clone_string_string.f (l0:List ByteArray):Option (List ByteArray):=if l0.length * 16 ≤ 140737488355328 then some l0 else none
theorem slices_Clone_string_string.own {w:World} {base n:Nat} {v:Value} {xs:List ByteArray} (h:w.ownsRow base 9 1 v n (xs.map Value.string)) (hn:n = xs.length):Kd.R Kd.string 9 w base (fun _=>True) v xs:=by
 subst hn
 exact Kd.R_of_own h (fun _ _=>trivial)
theorem slices_Clone_string_string.calls (A0:Option Addr) (c0:Nat) (l0:List ByteArray) (r:List ByteArray) (w:World) (hr0:Kd.C Kd.string w A0 l0.length l0) (hc0:l0.length ≤ c0) (h:slices_Clone_string_string.f l0 = some r) :
  Calls Tryd.prog 62 #[.slice A0 l0.length c0] w fun e w'=>∃ v0_:Value,e = .returned (v0_) ∧ Kd.R Kd.string 9 w' w.heap.size (fun _=>True) v0_ r ∧ Below w.heap.size w w':=by
 unfold slices_Clone_string_string.f at h
 split at h
 rotate_left
 ·cases h
 rename_i hb
 obtain rfl:=Option.some.inj h
 cases l0 with
 | nil =>
  cases A0 with
  | none=>exact (Tryd.slices_Clone_string_nil 0 c0 w).mono fun e w' ⟨he,hw⟩=>⟨_,he,by rw [hw];exact Kd.R_nil _ _ _ _ _,hw ▸ Below.refl _ _⟩
  | some ad=>exact (Tryd.slices_Clone_string_zero ad c0 w).mono fun e w' ⟨v',he,ho,_,hbl⟩=>⟨v',he,slices_Clone_string_string.own (xs:=[]) ho rfl,hbl⟩
 | cons x l =>
  obtain ⟨ad,rfl,hc⟩:=hr0.2.2 (by simp)
  have hcell:∀ (j:Nat) y,(x :: l)[j]? = some y → w.cell? (ad.add j) = some (.string y):=fun j y hy=>by
   obtain ⟨c,_,hK,hcc⟩:=hc j y hy
   have hK':c = [.string y]:=hK
   subst hK'
   have:=hcc 0 _ rfl
   rwa [show j * Kd.string.sz + 0 = j by show j * 1 + 0 = j;omega] at this
  have h0:∃ u,w.cell? (ad.add 0) = some u:=⟨_,hcell 0 x rfl⟩
  have hp:=fun (j:Nat) y (hy:(x :: l)[j]? = some y)=>(strings_Join.plain (hcell j y hy) h0).1
  have hs:=(strings_Join.plain (hcell 0 x rfl) h0).2
  have:=Tryd.slices_Clone_string ad.block ad.off (x :: l).length c0 (x :: l) w (Nat.le_refl _) hb (fun j hj=>by
   rw [List.getD_eq_getElem?_getD,List.getElem?_eq_getElem hj]
   exact hp j _ (List.getElem?_eq_getElem hj))
  rw [show (⟨ad.block,ad.off,none⟩:Addr) = ad by cases ad;simp_all,List.take_length] at this
  exact this.mono fun e w' ⟨v',he,ho,_,hbl⟩=>⟨v',he,slices_Clone_string_string.own ho rfl,hbl⟩

/-- Nothing is told of a text that is taken apart into its letters: no road comes there. -/
def strings_explode.f (_a0:ByteArray) (_a1:Int):Option (List ByteArray):=none
theorem strings_explode.calls (a0:ByteArray) (a1:Int) (r:List ByteArray) (w:World) (h:strings_explode.f a0 a1 = some r) :
  Calls Tryd.prog 87 #[.string a0, .int .i64 a1] w fun e w'=>∃ v0_:Value,e = .returned (v0_) ∧ Kd.R Kd.string 9 w' w.heap.size (fun _=>True) v0_ r ∧ Below w.heap.size w w':=by
 cases h

/-- How often a text of one byte stands in another. (Of longer ones nothing is told.) -/
def strings_Count.f (a0 a1:ByteArray):Option Int:=if a1.size = 1 then some (Go.Lib.countByte a0.data.toList (a1.data.toList.headD 0)) else none
set_option maxHeartbeats 1000000 in
set_option maxRecDepth 100000 in
theorem strings_Count.calls (a0 a1:ByteArray) (r:Int) (w:World) (h:strings_Count.f a0 a1 = some r) :
  Calls Tryd.prog 88 #[.string a0, .string a1] w fun e w'=>e = .returned (.int .i64 r) ∧ ∃ nd,w' = w.drewN nd:=by
 unfold strings_Count.f at h
 split at h
 rotate_left
 ·cases h
 rename_i hs
 obtain rfl:=Option.some.inj h
 clear h
 have HH:=Aside0.mk (show ∀ h:0 < a1.size,((a1[0]'h).toNat:Int).toNat.toUInt8 = a1.data.toList.headD 0 by
  obtain ⟨c,rfl⟩:=Go.Lib.one_byte a1 hs
  intro _
  show ((c.toNat:Int)).toNat.toUInt8 = c
  simp)
 have h0:(((a1.size:Nat):Int) == 0) = false:=by rw [hs];rfl
 have h1:(((a1.size:Nat):Int) == 1) = true:=by rw [hs];rfl
 have hlt:0 < a1.size:=by omega
 generalize hx:a1.data.toList.headD 0 = x at HH ⊢
 clear hs hx
 go_enter Tryd.func88,Tryd.ntmps88
 go_wp2
 rw [run_callFunc_extern Tryd.func94 (by kernel_rfl) (by kernel_rfl) (by kernel_rfl) (e:=Extern.BytealgCount.count) (by kernel_rfl),Go.Lib.run_countString,HH.out hlt]
 simp only [Result.andThen]
 rw [Oper.upon_value]
 go_wp2
 go_ret
 exact ⟨rfl,0,rfl⟩

def strings_Index.f (a0:ByteArray) (a1:ByteArray):Option (Int):=(stringslite_Index.f a0 a1).bind fun t355=>(some t355)
theorem strings_Index.calls (a0:ByteArray) (a1:ByteArray) (r:Int) (w:World) (h:strings_Index.f a0 a1 = some r) :
  Calls Tryd.prog 89 #[.string a0, .string a1] w fun e w'=>e = .returned (.int .i64 r) ∧ Drawn0 w w':=by
 have H:((stringslite_Index.f a0 a1).bind fun t355=>(some t355)) = some r:=h
 clear h
 replace H:=Option.bind_eq_some_iff.mp H
 obtain ⟨t355,A30,H⟩:=H
 replace H:(some t355) = some r:=H
 have A3:=Aside0.mk A30
 clear A30
 obtain rfl:=Option.some.inj H
 go_enter Tryd.func89,Tryd.ntmps89
 go_wp2_with (first|((with_reducible refine gate_callee (f:=56) rfl ?_);refine goesL_ (some 7) rfl rfl Tryd.func56 (by kernel_rfl) rfl #[.string a0, .string a1] rfl (by (try simp only [List.map_toArray,List.map_cons,List.map_nil]);first|done|rfl|(simp only [List.length_drop,List.length_take];rfl)) ?_;(with_reducible refine (stringslite_Index.calls a0 a1 t355 _ A3.out).mono ?_);rintro e w' ⟨rfl,⟨nd,rfl⟩⟩;refine ⟨_,rfl,?_⟩))
 go_ret
 exact ⟨by first|rfl|(simp;done)|(simp only [i64_w,i32_w];done)|(simp only [i64_w,i32_w];rfl)|(simp [*];done)|(simp [emp_bne,emp_beq];done),by repeat (first|exact Drawn0.refl _|apply Drawn0.step)⟩

mutual
def strings_genSplit.j0:Nat → ByteArray → ByteArray → Int → Int → Option (List ByteArray)
 | 0,_,_,_,_=>none
 | k + 1,x0,x1,x2,x3=>if 0 ≤ (mn x3 (wrap64 ((x0.size:Int) + 1))) then (if (mn x3 (wrap64 ((x0.size:Int) + 1)):Int).toNat ≤ 17592186044416 then (strings_genSplit.l0 k x0 x1 x2 (wrap64 ((mn x3 (wrap64 ((x0.size:Int) + 1))) - 1)) (List.replicate (mn x3 (wrap64 ((x0.size:Int) + 1)):Int).toNat (⟨#[]⟩:ByteArray)) 0) else (none)) else (none)
def strings_genSplit.l0:Nat → ByteArray → ByteArray → Int → Int → List ByteArray → Int → Option (List ByteArray)
 | 0,_,_,_,_,_,_=>none
 | k + 1,x0,x1,x2,x3,x9,x10=>if x10 < x3 then ((strings_Index.f x0 x1).bind fun t363=>(if t363 < 0 then (if 0 ≤ x10 then (if x10 < (x9.length:Int) then (if 0 ≤ (wrap64 (x10 + 1)) then (if (wrap64 (x10 + 1)) ≤ (x9.length:Int) then (some ((x9.set (x10:Int).toNat x0).take ((wrap64 (x10 + 1)):Int).toNat)) else (none)) else (none)) else (none)) else (none)) else (if 0 ≤ (wrap64 (t363 + x2)) then (if (wrap64 (t363 + x2)) ≤ (x0.size:Int) then (if 0 ≤ x10 then (if x10 < (x9.length:Int) then (if 0 ≤ (wrap64 (t363 + (x1.size:Int))) then (if (wrap64 (t363 + (x1.size:Int))) ≤ (x0.size:Int) then (strings_genSplit.l0 k (x0.extract ((wrap64 (t363 + (x1.size:Int))):Int).toNat x0.size) x1 x2 x3 (x9.set (x10:Int).toNat (x0.extract 0 ((wrap64 (t363 + x2)):Int).toNat)) (wrap64 (x10 + 1))) else (none)) else (none)) else (none)) else (none)) else (none)) else (none)))) else (if 0 ≤ x10 then (if x10 < (x9.length:Int) then (if 0 ≤ (wrap64 (x10 + 1)) then (if (wrap64 (x10 + 1)) ≤ (x9.length:Int) then (some ((x9.set (x10:Int).toNat x0).take ((wrap64 (x10 + 1)):Int).toNat)) else (none)) else (none)) else (none)) else (none))
end
def strings_genSplit.f (k:Nat) (a0:ByteArray) (a1:ByteArray) (a2:Int) (a3:Int):Option (List ByteArray):=if a3 = 0 then (some ([]:List ByteArray)) else (if a1.toList = ([]:List UInt8) then ((strings_explode.f a0 a3).bind fun t356=>(some t356)) else (if a3 < 0 then ((strings_Count.f a0 a1).bind fun t359=>(strings_genSplit.j0 k a0 a1 a2 (wrap64 (t359 + 1)))) else (strings_genSplit.j0 k a0 a1 a2 a3)))
theorem strings_genSplit.mono_l:∀ k,(∀ y0 y1 y2 y3,LeO (strings_genSplit.j0 k y0 y1 y2 y3) (strings_genSplit.j0 (k + 1) y0 y1 y2 y3)) ∧ (∀ y0 y1 y2 y3 y4 y5,LeO (strings_genSplit.l0 k y0 y1 y2 y3 y4 y5) (strings_genSplit.l0 (k + 1) y0 y1 y2 y3 y4 y5))
 | 0=>⟨fun _ _ _ _ r h=>by simp [strings_genSplit.j0] at h,fun _ _ _ _ _ _ r h=>by simp [strings_genSplit.l0] at h⟩
 | k + 1=>by
  obtain ⟨ih0,ih1⟩:=strings_genSplit.mono_l k
  refine ⟨?_,?_⟩
  ·intro y0 y1 y2 y3
   unfold strings_genSplit.j0
   repeat' first
   | (with_reducible exact ih0 _ _ _ _)
   | (with_reducible exact ih1 _ _ _ _ _ _)
   | (with_reducible exact LeO.refl _)
   | (with_reducible exact LeO.none _)
   | (with_reducible refine LeO.ite ?_ ?_)
   | (with_reducible refine LeO.bind ?_ (fun _=>?_))
   | exact ih0 _ _ _ _
   | exact ih1 _ _ _ _ _ _
   | exact LeO.none _
   | refine LeO.ite ?_ ?_
   | refine LeO.bind ?_ (fun _=>?_)
  ·intro y0 y1 y2 y3 y4 y5
   unfold strings_genSplit.l0
   repeat' first
   | (with_reducible exact ih0 _ _ _ _)
   | (with_reducible exact ih1 _ _ _ _ _ _)
   | (with_reducible exact LeO.refl _)
   | (with_reducible exact LeO.none _)
   | (with_reducible refine LeO.ite ?_ ?_)
   | (with_reducible refine LeO.bind ?_ (fun _=>?_))
   | exact ih0 _ _ _ _
   | exact ih1 _ _ _ _ _ _
   | exact LeO.none _
   | refine LeO.ite ?_ ?_
   | refine LeO.bind ?_ (fun _=>?_)
theorem strings_genSplit.mono:∀ a0 a1 a2 a3 k,LeO (strings_genSplit.f k a0 a1 a2 a3) (strings_genSplit.f (k + 1) a0 a1 a2 a3):=by
 intro a0 a1 a2 a3 k
 obtain ⟨ih0,ih1⟩:=strings_genSplit.mono_l k
 unfold strings_genSplit.f
 repeat' first
   | (with_reducible exact ih0 _ _ _ _)
   | (with_reducible exact ih1 _ _ _ _ _ _)
   | (with_reducible exact LeO.refl _)
   | (with_reducible exact LeO.none _)
   | (with_reducible refine LeO.ite ?_ ?_)
   | (with_reducible refine LeO.bind ?_ (fun _=>?_))
   | exact ih0 _ _ _ _
   | exact ih1 _ _ _ _ _ _
   | exact LeO.none _
   | refine LeO.ite ?_ ?_
   | refine LeO.bind ?_ (fun _=>?_)
theorem strings_genSplit.calls (k:Nat) (a0:ByteArray) (a1:ByteArray) (a2:Int) (a3:Int) (r:List ByteArray) (w:World) (h:strings_genSplit.f k a0 a1 a2 a3 = some r) :
  Calls Tryd.prog 80 #[.string a0, .string a1, .int .i64 a2, .int .i64 a3] w fun e w'=>∃ v0_:Value,e = .returned (v0_) ∧ Kd.R Kd.string 9 w' w.heap.size (fun _=>True) v0_ r ∧ Below w.heap.size w w':=by
 have HB:=Aside0.mk (Below.refl w.heap.size w)
 have H:(if a3 = 0 then (some ([]:List ByteArray)) else (if a1.toList = ([]:List UInt8) then ((strings_explode.f a0 a3).bind fun t356=>(some t356)) else (if a3 < 0 then ((strings_Count.f a0 a1).bind fun t359=>(strings_genSplit.j0 k a0 a1 a2 (wrap64 (t359 + 1)))) else (strings_genSplit.j0 k a0 a1 a2 a3)))) = some r:=h
 clear h
 by_cases c5:a3 = 0
 ·rw [if_pos c5] at H
  have c5b0:(a3 == 0) = true:=beq_iff_eq.mpr c5
  have c5b1:(a3 != 0) = false:=bne_eq_false_iff_eq.mpr c5
  clear c5
  obtain rfl:=Option.some.inj H
  go_enter Tryd.func80,Tryd.ntmps80
  go_wp2
  go_ret
  exact ⟨_,by first|rfl|(simp <;> rfl)|(simp [*] <;> rfl),by first|exact Kd.R_nil _ _ _ _ _|exact Kd.N_nil _ _ _ _ _|exact Kd.V_nil _ _ _ _ _|exact Kd.Q_nil _ _ _ _ _|exact Kd.S_nil _ _ _ _ _,by repeat (first|(with_reducible first|exact HB.out|apply below_alloc|apply pw_below_drewN|apply below_drew1)|exact HB.out)⟩
 ·rw [if_neg c5] at H
  have c5b0:(a3 == 0) = false:=beq_eq_false_iff_ne.mpr c5
  have c5b1:(a3 != 0) = true:=bne_iff_ne.mpr c5
  by_cases c6:a1.toList = ([]:List UInt8)
  ·rw [if_pos c6] at H
   (try (have c6b0:a1.toList.isEmpty = true:=by simpa using c6))
   have c6b1:(a1.toList == ([]:List UInt8)) = true:=beq_iff_eq.mpr c6
   have c6b2:(a1.toList != ([]:List UInt8)) = false:=bne_eq_false_iff_eq.mpr c6
   clear c6
   replace H:=Option.bind_eq_some_iff.mp H
   obtain ⟨t356,A70,H⟩:=H
   replace H:(some t356) = some r:=H
   have A7:=Aside0.mk A70
   clear A70
   obtain rfl:=Option.some.inj H
   go_enter Tryd.func80,Tryd.ntmps80
   go_wp2_with (first|((with_reducible refine gate_callee (f:=87) rfl ?_);refine goesL_ (some 18) rfl rfl Tryd.func87 (by kernel_rfl) rfl #[.string a0, .int .i64 a3] rfl (by (try simp only [List.map_toArray,List.map_cons,List.map_nil]);first|done|rfl|(simp only [List.length_drop,List.length_take];rfl)) ?_;(with_reducible refine (strings_explode.calls a0 a3 t356 _ A7.out).mono ?_);rintro e w8 ⟨v357,rfl,ho0,hb⟩;refine ⟨_,rfl,?_⟩;have n0_:=Aside0.mk (Kd.R_lower ho0 (below_size (by repeat (first|(with_reducible first|exact HB.out|apply below_alloc|apply pw_below_drewN|apply below_drew1)|exact HB.out))));have n1_:=Aside0.mk (below_step (by repeat (first|(with_reducible first|exact HB.out|apply below_alloc|apply pw_below_drewN|apply below_drew1)|exact HB.out)) hb);clear HB;have HO358:=n0_;have HB:=n1_;clear n0_ n1_;(try clear hb);(try clear hb2);(try clear hk);(try clear hi);(try clear ho0)))
   go_ret
   exact ⟨_,by first|rfl|(simp <;> rfl)|(simp [*] <;> rfl),by (with_reducible repeat (first|apply Kd.R_alloc|apply Kd.R_drewN|apply Kd.R_drew));exact HO358.out,by repeat (first|(with_reducible first|exact HB.out|apply below_alloc|apply pw_below_drewN|apply below_drew1)|exact HB.out)⟩
  ·rw [if_neg c6] at H
   (try (have c6b0:a1.toList.isEmpty = false:=by simpa using c6))
   have c6b1:(a1.toList == ([]:List UInt8)) = false:=beq_eq_false_iff_ne.mpr c6
   have c6b2:(a1.toList != ([]:List UInt8)) = true:=bne_iff_ne.mpr c6
   have HC9:=Aside0.mk H
   clear H
   go_enter Tryd.func80,Tryd.ntmps80
   go_upto_if 20 with (fail)
   go_cut [3] (fun v3 wc=>∃ (kq:Nat) (x3_8:Int),v3 = .int .i64 x3_8 ∧ Aside0 (strings_genSplit.j0 kq a0 a1 a2 x3_8 = some r) ∧ Aside0 (kq ≤ k) ∧ Aside0 (Below w.heap.size w wc))
   case first =>
    have H:=HC9.out
    clear HC9
    by_cases c10:a3 < 0
    ·rw [if_pos c10] at H
     have c10b0:decide (a3 < 0) = true:=decide_eq_true c10
     clear c10
     (first|rw [c10b0]|(simp only [i64_w,i32_w];rw [c10b0])|skip)
     replace H:=Option.bind_eq_some_iff.mp H
     obtain ⟨t359,A110,H⟩:=H
     replace H:(strings_genSplit.j0 k a0 a1 a2 (wrap64 (t359 + 1))) = some r:=H
     have A11:=Aside0.mk A110
     clear A110
     have H':=Aside0.mk H
     clear H
     go_wp2_with (first|((with_reducible refine gate_callee (f:=88) rfl ?_);refine goesL_ (some 23) rfl rfl Tryd.func88 (by kernel_rfl) rfl #[.string a0, .string a1] rfl (by (try simp only [List.map_toArray,List.map_cons,List.map_nil]);first|done|rfl|(simp only [List.length_drop,List.length_take];rfl)) ?_;(with_reducible refine (strings_Count.calls a0 a1 t359 _ A11.out).mono ?_);rintro e w' ⟨rfl,⟨nd,rfl⟩⟩;refine ⟨_,rfl,?_⟩))
     go_meet
     case rel=>exact ⟨_,(wrap64 (t359 + 1)),(by first|rfl|(simp;done)|(simp only [i64_w,i32_w];done)|(simp only [i64_w,i32_w];rfl)|(simp [*];done)|(simp [emp_bne,emp_beq];done)),H',⟨by first|omega|exact Nat.le_refl _⟩,⟨by repeat (first|(with_reducible first|exact HB.out|apply below_alloc|apply pw_below_drewN|apply below_drew1)|exact HB.out)⟩⟩
    ·rw [if_neg c10] at H
     have c10b0:decide (a3 < 0) = false:=decide_eq_false c10
     clear c10
     (first|rw [c10b0]|(simp only [i64_w,i32_w];rw [c10b0])|skip)
     have H':=Aside0.mk H
     clear H
     go_wp2
     go_meet
     case rel=>exact ⟨_,(a3),(by first|rfl|(simp;done)|(simp only [i64_w,i32_w];done)|(simp only [i64_w,i32_w];rfl)|(simp [*];done)|(simp [emp_bne,emp_beq];done)),H',⟨by first|omega|exact Nat.le_refl _⟩,⟨by repeat (first|(with_reducible first|exact HB.out|apply below_alloc|apply pw_below_drewN|apply below_drew1)|exact HB.out)⟩⟩
   case rest =>
    clear HC9
    try clear c1
    try clear p2
    try clear c5
    try clear c5b0
    try clear c5b1
    try clear c6
    try clear c6b0
    try clear c6b1
    try clear c6b2
    try clear p6
    try clear c8
    try clear c10
    try clear c10b0
    obtain ⟨kq,x3_8,rfl,HA,HJ8,HB⟩:=hcut
    cases kq with
    | zero=>exact absurd HA.out (by simp [strings_genSplit.j0])
    | succ kj8 =>
     have H:=HA.out
     clear HA
     simp only [strings_genSplit.j0] at H
     obtain ⟨ji12,hji12⟩:∃ j_:Int,(mn x3_8 (wrap64 ((a0.size:Int) + 1))) = j_:=⟨_,rfl⟩
     replace H:(if 0 ≤ (ji12) then (if (ji12:Int).toNat ≤ 17592186044416 then (strings_genSplit.l0 kj8 a0 a1 a2 (wrap64 ((ji12) - 1)) (List.replicate (ji12:Int).toNat (⟨#[]⟩:ByteArray)) 0) else (none)) else (none)) = some r:=by first|(rw [hji12] at H;exact H)|(simp only [hji12] at H ⊢;exact H)
     have hji12_:(if (wrap64 ((a0.size:Int) + 1)) < x3_8 then (wrap64 ((a0.size:Int) + 1)) else x3_8) = ji12:=hji12
     by_cases c13:0 ≤ (ji12)
     ·rw [if_pos c13] at H
      have c13b0:=eq_true c13
      have c13b1:=decide_eq_true c13
      clear c13
      by_cases c14:(ji12:Int).toNat ≤ 17592186044416
      ·rw [if_pos c14] at H
       have c14b0:=eq_true c14
       have c14b1:=decide_eq_true c14
       clear c14
       obtain ⟨y360,hy360⟩:∃ y_:List ByteArray,y_ = (List.replicate (ji12:Int).toNat (⟨#[]⟩:ByteArray)):=⟨_,rfl⟩
       replace H:(strings_genSplit.l0 kj8 a0 a1 a2 (wrap64 ((ji12) - 1)) y360 0) = some r:=by first|(rw [hy360];with_reducible exact H)|(have H2_:=(Option.bind_some _ _).symm.trans H;rw [hy360];with_reducible exact H2_)|(have H2_:=(Option.bind_some _ _).symm.trans H;with_reducible exact H2_)|with_reducible exact H|(rw [hy360];exact H)|exact H
       have Ny360:=Aside0.mk hy360
       clear hy360
       have H':=Aside0.mk H
       clear H
       go_wp2_with (first|((with_reducible refine gate_dst (N:=31) rfl ?_);refine Kd.R_make Kd.string _ 9 rfl (N:=31) rfl 22 _ _ rfl ji12 rfl rfl Tryd.underlying22 (.string ⟨#[]⟩) 16 info9 rfl (by decide) (by omega) (⟨#[]⟩:ByteArray) (ok:=fun _=>True) (okp:=fun _=>True) rfl (fun _ hk=>hk) trivial (of_decide_eq_true (by first|(with_reducible assumption)|assumption)) (Nat.le_trans (Nat.mul_le_mul_right _ (of_decide_eq_true (by first|(with_reducible assumption)|assumption):ji12.toNat ≤ 17592186044416)) (by omega)) (Below.refl _ _) (Nat.le_refl _) ?_;intro v361 w15 ho16 hb hg_ hnew_;clear hg_ hnew_;(first|rw [← Ny360.out] at ho16|(simp only [Int.reduceToNat] at ho16;rw [← Ny360.out] at ho16));have n0_:=Aside0.mk (Kd.R_lower ho16 (below_size (by repeat (first|(with_reducible first|exact HB.out|apply below_alloc|apply pw_below_drewN|apply below_drew1)|exact HB.out))));have n1_:=Aside0.mk (below_step (by repeat (first|(with_reducible first|exact HB.out|apply below_alloc|apply pw_below_drewN|apply below_drew1)|exact HB.out)) hb);clear HB;have HO362:=n0_;have HB:=n1_;clear n0_ n1_;clear hb ho16))
       go_loopg [0,10] kj8 (fun kq v0 v10 w'=>∃ (x0_2:ByteArray) (x9_2:List ByteArray) (x10_2:Int),v0 = .string x0_2 ∧ v10 = .int .i64 x10_2 ∧ Aside0 (strings_genSplit.l0 kq x0_2 a1 a2 (wrap64 ((ji12) - 1)) x9_2 x10_2 = some r) ∧ Aside0 (kq ≤ kj8) ∧ Aside0 (Kd.R Kd.string 9 w' w.heap.size (fun _=>True) v361 x9_2) ∧ Aside0 (Below w.heap.size w w'))
       case atStart=>exact ⟨(a0),(y360),(0),(by first|rfl|(simp;done)|(simp only [i64_w,i32_w];done)|(simp only [i64_w,i32_w];rfl)|(simp [*];done)|(simp [emp_bne,emp_beq];done)),(by first|rfl|(simp;done)|(simp only [i64_w,i32_w];done)|(simp only [i64_w,i32_w];rfl)|(simp [*];done)|(simp [emp_bne,emp_beq];done)),H',⟨Nat.le_refl _⟩,⟨by (with_reducible repeat (first|apply Kd.R_alloc|apply Kd.R_drewN|apply Kd.R_drew));exact HO362.out⟩,⟨by repeat (first|(with_reducible first|exact HB.out|apply below_alloc|apply pw_below_drewN|apply below_drew1)|exact HB.out)⟩⟩
       case round =>
        clear H'
        try clear c1
        try clear p2
        try clear c5
        try clear c5b0
        try clear c5b1
        try clear c6
        try clear c6b0
        try clear c6b1
        try clear c6b2
        try clear p6
        try clear c8
        try clear c10
        try clear c10b0
        try clear c13
        try clear c13b0
        try clear c13b1
        try clear c14
        try clear c14b0
        try clear c14b1
        try clear p2
        try clear p6
        obtain ⟨x0_2,x9_2,x10_2,rfl,rfl,HA,HK2,HO_9,HB⟩:=hrel
        cases gk with
        | zero=>exact absurd HA.out (by simp [strings_genSplit.l0])
        | succ k2 =>
         have H:=HA.out
         clear HA
         simp only [strings_genSplit.l0] at H
         by_cases c17:x10_2 < (wrap64 ((ji12) - 1))
         ·rw [if_pos c17] at H
          have c17b0:decide (x10_2 < (wrap64 ((ji12) - 1))) = true:=decide_eq_true c17
          clear c17
          replace H:=Option.bind_eq_some_iff.mp H
          obtain ⟨t363,A180,H⟩:=H
          replace H:(if t363 < 0 then (if 0 ≤ x10_2 then (if x10_2 < (x9_2.length:Int) then (if 0 ≤ (wrap64 (x10_2 + 1)) then (if (wrap64 (x10_2 + 1)) ≤ (x9_2.length:Int) then (some ((x9_2.set (x10_2:Int).toNat x0_2).take ((wrap64 (x10_2 + 1)):Int).toNat)) else (none)) else (none)) else (none)) else (none)) else (if 0 ≤ (wrap64 (t363 + a2)) then (if (wrap64 (t363 + a2)) ≤ (x0_2.size:Int) then (if 0 ≤ x10_2 then (if x10_2 < (x9_2.length:Int) then (if 0 ≤ (wrap64 (t363 + (a1.size:Int))) then (if (wrap64 (t363 + (a1.size:Int))) ≤ (x0_2.size:Int) then (strings_genSplit.l0 k2 (x0_2.extract ((wrap64 (t363 + (a1.size:Int))):Int).toNat x0_2.size) a1 a2 (wrap64 ((ji12) - 1)) (x9_2.set (x10_2:Int).toNat (x0_2.extract 0 ((wrap64 (t363 + a2)):Int).toNat)) (wrap64 (x10_2 + 1))) else (none)) else (none)) else (none)) else (none)) else (none)) else (none))) = some r:=H
          have A18:=Aside0.mk A180
          clear A180
          by_cases c19:t363 < 0
          ·rw [if_pos c19] at H
           have c19b0:decide (t363 < 0) = true:=decide_eq_true c19
           clear c19
           by_cases c20:0 ≤ x10_2
           ·rw [if_pos c20] at H
            have c20b0:decide (0 ≤ x10_2) = true:=decide_eq_true c20
            clear c20
            by_cases c21:x10_2 < (x9_2.length:Int)
            ·rw [if_pos c21] at H
             have c21b0:decide (x10_2 < (x9_2.length:Int)) = true:=decide_eq_true c21
             clear c21
             obtain ⟨y364,hy364⟩:∃ y_:List ByteArray,y_ = (x9_2.set (x10_2:Int).toNat x0_2):=⟨_,rfl⟩
             replace H:(if 0 ≤ (wrap64 (x10_2 + 1)) then (if (wrap64 (x10_2 + 1)) ≤ (x9_2.length:Int) then (some (y364.take ((wrap64 (x10_2 + 1)):Int).toNat)) else (none)) else (none)) = some r:=by first|(rw [hy364];with_reducible exact H)|(have H2_:=(Option.bind_some _ _).symm.trans H;rw [hy364];with_reducible exact H2_)|(have H2_:=(Option.bind_some _ _).symm.trans H;with_reducible exact H2_)|with_reducible exact H|(rw [hy364];exact H)|exact H
             have Ny364:=Aside0.mk hy364
             clear hy364
             obtain ⟨ji23,hji23⟩:∃ j_:Int,(wrap64 (x10_2 + 1)) = j_:=⟨_,rfl⟩
             replace H:(if 0 ≤ (ji23) then (if (ji23) ≤ (x9_2.length:Int) then (some (y364.take ((ji23):Int).toNat)) else (none)) else (none)) = some r:=by first|(rw [hji23] at H;exact H)|(simp only [hji23] at H ⊢;exact H)
             (try rw [hji23] at A18)
             have hji23w:(IntKind.i64.wrap (x10_2 + 1)) = ji23:=(i64_w _).trans hji23
             by_cases c24:0 ≤ (ji23)
             ·rw [if_pos c24] at H
              have c24b0:=eq_true c24
              have c24b1:=decide_eq_true c24
              clear c24
              by_cases c25:(ji23) ≤ (x9_2.length:Int)
              ·rw [if_pos c25] at H
               have c25b0:=eq_true c25
               have c25b1:=decide_eq_true c25
               clear c25
               obtain ⟨y365,hy365⟩:∃ y_:List ByteArray,y_ = (y364.take ((ji23):Int).toNat):=⟨_,rfl⟩
               replace H:(some y365) = some r:=by first|(rw [hy365];with_reducible exact H)|(have H2_:=(Option.bind_some _ _).symm.trans H;rw [hy365];with_reducible exact H2_)|(have H2_:=(Option.bind_some _ _).symm.trans H;with_reducible exact H2_)|with_reducible exact H|(rw [hy365];exact H)|exact H
               have Ny365:=Aside0.mk hy365
               clear hy365
               obtain rfl:=Option.some.inj H
               go_wp2_with (first|((with_reducible refine gate_callee (f:=89) rfl ?_);refine goesL_ (some 39) rfl rfl Tryd.func89 (by kernel_rfl) rfl #[.string x0_2, .string a1] rfl (by (try simp only [List.map_toArray,List.map_cons,List.map_nil]);first|done|rfl|(simp only [List.length_drop,List.length_take];rfl)) ?_;(with_reducible refine (strings_Index.calls x0_2 a1 t363 _ A18.out).mono ?_);rintro e w' ⟨rfl,⟨nd,rfl⟩⟩;refine ⟨_,rfl,?_⟩;(try (rw [drewN_self wr];generalize hq_:World.drewN wr _ = wr;have n0_:Aside0 (Kd.R Kd.string 9 wr w.heap.size (fun _=>True) v361 x9_2):=⟨by rw [← hq_];exact (by (with_reducible repeat (first|apply Kd.R_alloc|apply Kd.R_drewN|apply Kd.R_drew));exact HO_9.out)⟩;have n1_:Aside0 (Below w.heap.size w wr):=⟨by rw [← hq_];exact (by repeat (first|(with_reducible first|exact HB.out|apply below_alloc|apply pw_below_drewN|apply below_drew1)|exact HB.out))⟩;clear HO_9 HB hq_;have HO_9:=n0_;have HB:=n1_;clear n0_ n1_));have p22:0 ≤ (x10_2:Int):=of_decide_eq_true (by first|(with_reducible assumption)|assumption);have q22:(x10_2:Int) < ((x9_2.length:Int):Int):=of_decide_eq_true (by first|(with_reducible assumption)|assumption);obtain ⟨go22,co22,eo22,gb22,gl22,cl22,HG22⟩:=Kd.R_form HO_9.out (by omega);(first|cases eo22|(injection eo22 with ea_ en_ ec_;(first|subst ea_|(injection ea_ with ea_;subst ea_));subst ec_;clear en_));have GB22:=Aside0.mk gb22;have GG22:=Aside0.mk HG22;clear gb22 gl22 HG22;obtain ⟨hx22_0,hf22_0⟩:=Kd.R_celln (⟨#[]⟩:ByteArray) HO_9.out (x10_2:Int) p22 q22;replace p22:=eq_true p22;replace q22:=eq_true q22;obtain ⟨hy26_,hz26_⟩:=Kd.R_celln (⟨#[]⟩:ByteArray) HO_9.out (x10_2:Int) (of_decide_eq_true (by first|(with_reducible assumption)|assumption)) (of_decide_eq_true (by first|(with_reducible assumption)|assumption));have HP26:=Kd.R_putg HO_9.out (x10_2:Int) x0_2)|((with_reducible refine gate_store (t:=9) (p:=61) rfl ?_);refine store_event (t:=9) (p:=61) (v:=?vo_w27) (w1:=(wr.setCell ⟨go22,(x10_2:Int).toNat,none⟩ (.string x0_2))) ?hg ?ho ?hn ?hr ?_;(case ho=>rfl);(case hg=>rfl);(case hn=>rfl);(case hr=>first|(go_simp;done)|(go_simp;rfl));intro w27 hw;have hg:wr.grownBy w27 (some go22):=(by rw [hw];exact HP26.2);have hp_:Kd.R Kd.string 9 w27 w.heap.size (fun _=>True) (.slice (some ⟨go22,0,none⟩) x9_2.length co22) y364:=(by rw [hw,Ny364.out];exact HP26.1);clear HP26;have n0_:=Aside0.mk (hp_);have n1_:=Aside0.mk ((by rw [hw];exact below_set (HB.out) GB22.out:Below w.heap.size w w27));clear HO_9;clear HB;have HO_9:=n0_;have HB:=n1_;clear n0_ n1_;clear hg hw hp_;have q28:((ji23):Int) ≤ ((x9_2.length:Int):Int):=of_decide_eq_true (by first|(with_reducible assumption)|assumption);obtain ⟨i028,hi028,_,hsz28,_⟩:=info_parts info9;have hcut28:=cut_to (P:=Tryd.prog) 22 9 .i64 Tryd.underlying22 hi028 (some ⟨go22,0,none⟩) x9_2.length co22 (ji23) (of_decide_eq_true (by first|(with_reducible assumption)|assumption)) q28 (Kd.R_reads' HO_9.out).2.1;have hn_:=(Kd.R_reads' HO_9.out).1;have hr28:=Kd.R_take (m:=((ji23):Int).toNat) HO_9.out (by omega);have hy28:y365.length = ((ji23):Int).toNat:=(by rw [Ny365.out,List.length_take];omega);clear hn_;rw [← Ny365.out] at hr28;rw [← hy28] at hr28 hcut28;clear hy28 hi028 hsz28 HO_9;have HO367:=Aside0.mk hr28;clear hr28;replace q28:=eq_true q28))
               go_ret
               exact ⟨_,by first|rfl|(simp <;> rfl)|(simp only [← hji12,← hji23];first|rfl|(simp <;> rfl))|(simp [*] <;> rfl),by (with_reducible repeat (first|apply Kd.R_alloc|apply Kd.R_drewN|apply Kd.R_drew));exact HO367.out,by repeat (first|(with_reducible first|exact HB.out|apply below_alloc|apply pw_below_drewN|apply below_drew1)|exact HB.out)⟩
              ·rw [if_neg c25] at H
               exact absurd H (by simp)
             ·rw [if_neg c24] at H
              exact absurd H (by simp)
            ·rw [if_neg c21] at H
             exact absurd H (by simp)
           ·rw [if_neg c20] at H
            exact absurd H (by simp)
          ·rw [if_neg c19] at H
           have c19b0:decide (t363 < 0) = false:=decide_eq_false c19
           clear c19
           obtain ⟨ji29,hji29⟩:∃ j_:Int,(wrap64 (t363 + a2)) = j_:=⟨_,rfl⟩
           replace H:(if 0 ≤ (ji29) then (if (ji29) ≤ (x0_2.size:Int) then (if 0 ≤ x10_2 then (if x10_2 < (x9_2.length:Int) then (if 0 ≤ (wrap64 (t363 + (a1.size:Int))) then (if (wrap64 (t363 + (a1.size:Int))) ≤ (x0_2.size:Int) then (strings_genSplit.l0 k2 (x0_2.extract ((wrap64 (t363 + (a1.size:Int))):Int).toNat x0_2.size) a1 a2 (wrap64 ((ji12) - 1)) (x9_2.set (x10_2:Int).toNat (x0_2.extract 0 ((ji29):Int).toNat)) (wrap64 (x10_2 + 1))) else (none)) else (none)) else (none)) else (none)) else (none)) else (none)) = some r:=by first|(rw [hji29] at H;exact H)|(simp only [hji29] at H ⊢;exact H)
           (try rw [hji29] at A18)
           have hji29w:(IntKind.i64.wrap (t363 + a2)) = ji29:=(i64_w _).trans hji29
           by_cases c30:0 ≤ (ji29)
           ·rw [if_pos c30] at H
            have c30b0:=eq_true c30
            have c30b1:=decide_eq_true c30
            clear c30
            by_cases c31:(ji29) ≤ (x0_2.size:Int)
            ·rw [if_pos c31] at H
             have c31b0:=eq_true c31
             have c31b1:=decide_eq_true c31
             clear c31
             by_cases c32:0 ≤ x10_2
             ·rw [if_pos c32] at H
              have c32b0:decide (0 ≤ x10_2) = true:=decide_eq_true c32
              clear c32
              by_cases c33:x10_2 < (x9_2.length:Int)
              ·rw [if_pos c33] at H
               have c33b0:decide (x10_2 < (x9_2.length:Int)) = true:=decide_eq_true c33
               clear c33
               obtain ⟨y368,hy368⟩:∃ y_:List ByteArray,y_ = (x9_2.set (x10_2:Int).toNat (x0_2.extract 0 ((ji29):Int).toNat)):=⟨_,rfl⟩
               replace H:(if 0 ≤ (wrap64 (t363 + (a1.size:Int))) then (if (wrap64 (t363 + (a1.size:Int))) ≤ (x0_2.size:Int) then (strings_genSplit.l0 k2 (x0_2.extract ((wrap64 (t363 + (a1.size:Int))):Int).toNat x0_2.size) a1 a2 (wrap64 ((ji12) - 1)) y368 (wrap64 (x10_2 + 1))) else (none)) else (none)) = some r:=by first|(rw [hy368];with_reducible exact H)|(have H2_:=(Option.bind_some _ _).symm.trans H;rw [hy368];with_reducible exact H2_)|(have H2_:=(Option.bind_some _ _).symm.trans H;with_reducible exact H2_)|with_reducible exact H|(rw [hy368];exact H)|exact H
               have Ny368:=Aside0.mk hy368
               clear hy368
               obtain ⟨ji35,hji35⟩:∃ j_:Int,(wrap64 (t363 + (a1.size:Int))) = j_:=⟨_,rfl⟩
               replace H:(if 0 ≤ (ji35) then (if (ji35) ≤ (x0_2.size:Int) then (strings_genSplit.l0 k2 (x0_2.extract ((ji35):Int).toNat x0_2.size) a1 a2 (wrap64 ((ji12) - 1)) y368 (wrap64 (x10_2 + 1))) else (none)) else (none)) = some r:=by first|(rw [hji35] at H;exact H)|(simp only [hji35] at H ⊢;exact H)
               (try rw [hji35] at A18)
               have hji35w:(IntKind.i64.wrap (t363 + (a1.size:Int))) = ji35:=(i64_w _).trans hji35
               by_cases c36:0 ≤ (ji35)
               ·rw [if_pos c36] at H
                have c36b0:=eq_true c36
                have c36b1:=decide_eq_true c36
                clear c36
                by_cases c37:(ji35) ≤ (x0_2.size:Int)
                ·rw [if_pos c37] at H
                 have c37b0:=eq_true c37
                 have c37b1:=decide_eq_true c37
                 clear c37
                 have H':=Aside0.mk H
                 clear H
                 go_wp2_with (first|((with_reducible refine gate_callee (f:=89) rfl ?_);refine goesL_ (some 39) rfl rfl Tryd.func89 (by kernel_rfl) rfl #[.string x0_2, .string a1] rfl (by (try simp only [List.map_toArray,List.map_cons,List.map_nil]);first|done|rfl|(simp only [List.length_drop,List.length_take];rfl)) ?_;(with_reducible refine (strings_Index.calls x0_2 a1 t363 _ A18.out).mono ?_);rintro e w' ⟨rfl,⟨nd,rfl⟩⟩;refine ⟨_,rfl,?_⟩;(try (rw [drewN_self wr];generalize hq_:World.drewN wr _ = wr;have n0_:Aside0 (Kd.R Kd.string 9 wr w.heap.size (fun _=>True) v361 x9_2):=⟨by rw [← hq_];exact (by (with_reducible repeat (first|apply Kd.R_alloc|apply Kd.R_drewN|apply Kd.R_drew));exact HO_9.out)⟩;have n1_:Aside0 (Below w.heap.size w wr):=⟨by rw [← hq_];exact (by repeat (first|(with_reducible first|exact HB.out|apply below_alloc|apply pw_below_drewN|apply below_drew1)|exact HB.out))⟩;clear HO_9 HB hq_;have HO_9:=n0_;have HB:=n1_;clear n0_ n1_));have p34:0 ≤ (x10_2:Int):=of_decide_eq_true (by first|(with_reducible assumption)|assumption);have q34:(x10_2:Int) < ((x9_2.length:Int):Int):=of_decide_eq_true (by first|(with_reducible assumption)|assumption);obtain ⟨go34,co34,eo34,gb34,gl34,cl34,HG34⟩:=Kd.R_form HO_9.out (by omega);(first|cases eo34|(injection eo34 with ea_ en_ ec_;(first|subst ea_|(injection ea_ with ea_;subst ea_));subst ec_;clear en_));have GB34:=Aside0.mk gb34;have GG34:=Aside0.mk HG34;clear gb34 gl34 HG34;obtain ⟨hx34_0,hf34_0⟩:=Kd.R_celln (⟨#[]⟩:ByteArray) HO_9.out (x10_2:Int) p34 q34;replace p34:=eq_true p34;replace q34:=eq_true q34;obtain ⟨hy38_,hz38_⟩:=Kd.R_celln (⟨#[]⟩:ByteArray) HO_9.out (x10_2:Int) (of_decide_eq_true (by first|(with_reducible assumption)|assumption)) (of_decide_eq_true (by first|(with_reducible assumption)|assumption));have HP38:=Kd.R_putg HO_9.out (x10_2:Int) (x0_2.extract 0 ((ji29):Int).toNat))|((with_reducible refine gate_store (t:=9) (p:=49) rfl ?_);refine store_event (t:=9) (p:=49) (v:=?vo_w39) (w1:=(wr.setCell ⟨go34,(x10_2:Int).toNat,none⟩ (.string (x0_2.extract 0 ((ji29):Int).toNat)))) ?hg ?ho ?hn ?hr ?_;(case ho=>rfl);(case hg=>rfl);(case hn=>rfl);(case hr=>first|(go_simp;done)|(go_simp;rfl));intro w39 hw;have hg:wr.grownBy w39 (some go34):=(by rw [hw];exact HP38.2);have hp_:Kd.R Kd.string 9 w39 w.heap.size (fun _=>True) (.slice (some ⟨go34,0,none⟩) x9_2.length co34) y368:=(by rw [hw,Ny368.out];exact HP38.1);clear HP38;have n0_:=Aside0.mk (hp_);have n1_:=Aside0.mk ((by rw [hw];exact below_set (HB.out) GB34.out:Below w.heap.size w w39));clear HO_9;clear HB;have HO_9:=n0_;have HB:=n1_;clear n0_ n1_;clear hg hw hp_))
                 go_roundg k2
                 case measure=>have:=HJ8.out;have:=HK2.out;omega
                 case rel=>exact ⟨(x0_2.extract ((ji35):Int).toNat x0_2.size),(y368),(wrap64 (x10_2 + 1)),(by first|rfl|(simp only [i64_w,i32_w];done)|(simp only [i64_w,i32_w];rfl)|(simp;done)|(simp only [← hji35] <;> (first|rfl|simp))|(simp [*];done)),(by first|rfl|(simp;done)|(simp only [i64_w,i32_w];done)|(simp only [i64_w,i32_w];rfl)|(simp [*];done)|(simp [emp_bne,emp_beq];done)),H',⟨by have:=HJ8.out;have:=HK2.out;omega⟩,⟨by (with_reducible repeat (first|apply Kd.R_alloc|apply Kd.R_drewN|apply Kd.R_drew));exact HO_9.out⟩,⟨by repeat (first|(with_reducible first|exact HB.out|apply below_alloc|apply pw_below_drewN|apply below_drew1)|exact HB.out)⟩⟩
                ·rw [if_neg c37] at H
                 exact absurd H (by simp)
               ·rw [if_neg c36] at H
                exact absurd H (by simp)
              ·rw [if_neg c33] at H
               exact absurd H (by simp)
             ·rw [if_neg c32] at H
              exact absurd H (by simp)
            ·rw [if_neg c31] at H
             exact absurd H (by simp)
           ·rw [if_neg c30] at H
            exact absurd H (by simp)
         ·rw [if_neg c17] at H
          have c17b0:decide (x10_2 < (wrap64 ((ji12) - 1))) = false:=decide_eq_false c17
          clear c17
          by_cases c40:0 ≤ x10_2
          ·rw [if_pos c40] at H
           have c40b0:decide (0 ≤ x10_2) = true:=decide_eq_true c40
           clear c40
           by_cases c41:x10_2 < (x9_2.length:Int)
           ·rw [if_pos c41] at H
            have c41b0:decide (x10_2 < (x9_2.length:Int)) = true:=decide_eq_true c41
            clear c41
            obtain ⟨y369,hy369⟩:∃ y_:List ByteArray,y_ = (x9_2.set (x10_2:Int).toNat x0_2):=⟨_,rfl⟩
            replace H:(if 0 ≤ (wrap64 (x10_2 + 1)) then (if (wrap64 (x10_2 + 1)) ≤ (x9_2.length:Int) then (some (y369.take ((wrap64 (x10_2 + 1)):Int).toNat)) else (none)) else (none)) = some r:=by first|(rw [hy369];with_reducible exact H)|(have H2_:=(Option.bind_some _ _).symm.trans H;rw [hy369];with_reducible exact H2_)|(have H2_:=(Option.bind_some _ _).symm.trans H;with_reducible exact H2_)|with_reducible exact H|(rw [hy369];exact H)|exact H
            have Ny369:=Aside0.mk hy369
            clear hy369
            obtain ⟨ji43,hji43⟩:∃ j_:Int,(wrap64 (x10_2 + 1)) = j_:=⟨_,rfl⟩
            replace H:(if 0 ≤ (ji43) then (if (ji43) ≤ (x9_2.length:Int) then (some (y369.take ((ji43):Int).toNat)) else (none)) else (none)) = some r:=by first|(rw [hji43] at H;exact H)|(simp only [hji43] at H ⊢;exact H)
            have hji43w:(IntKind.i64.wrap (x10_2 + 1)) = ji43:=(i64_w _).trans hji43
            by_cases c44:0 ≤ (ji43)
            ·rw [if_pos c44] at H
             have c44b0:=eq_true c44
             have c44b1:=decide_eq_true c44
             clear c44
             by_cases c45:(ji43) ≤ (x9_2.length:Int)
             ·rw [if_pos c45] at H
              have c45b0:=eq_true c45
              have c45b1:=decide_eq_true c45
              clear c45
              obtain ⟨y370,hy370⟩:∃ y_:List ByteArray,y_ = (y369.take ((ji43):Int).toNat):=⟨_,rfl⟩
              replace H:(some y370) = some r:=by first|(rw [hy370];with_reducible exact H)|(have H2_:=(Option.bind_some _ _).symm.trans H;rw [hy370];with_reducible exact H2_)|(have H2_:=(Option.bind_some _ _).symm.trans H;with_reducible exact H2_)|with_reducible exact H|(rw [hy370];exact H)|exact H
              have Ny370:=Aside0.mk hy370
              clear hy370
              obtain rfl:=Option.some.inj H
              have p42:0 ≤ (x10_2:Int):=of_decide_eq_true (by first|(with_reducible assumption)|assumption)
              have q42:(x10_2:Int) < ((x9_2.length:Int):Int):=of_decide_eq_true (by first|(with_reducible assumption)|assumption)
              obtain ⟨go42,co42,eo42,gb42,gl42,cl42,HG42⟩:=Kd.R_form HO_9.out (by omega)
              (first|cases eo42|(injection eo42 with ea_ en_ ec_;(first|subst ea_|(injection ea_ with ea_;subst ea_));subst ec_;clear en_))
              have GB42:=Aside0.mk gb42
              have GG42:=Aside0.mk HG42
              clear gb42 gl42 HG42
              obtain ⟨hx42_0,hf42_0⟩:=Kd.R_celln (⟨#[]⟩:ByteArray) HO_9.out (x10_2:Int) p42 q42
              replace p42:=eq_true p42
              replace q42:=eq_true q42
              have HP46:=Kd.R_putg HO_9.out (x10_2:Int) x0_2
              go_wp2_with (first|((with_reducible refine gate_store (t:=9) (p:=61) rfl ?_);refine store_event (t:=9) (p:=61) (v:=?vo_w47) (w1:=(wr.setCell ⟨go42,(x10_2:Int).toNat,none⟩ (.string x0_2))) ?hg ?ho ?hn ?hr ?_;(case ho=>rfl);(case hg=>rfl);(case hn=>rfl);(case hr=>first|(go_simp;done)|(go_simp;rfl));intro w47 hw;have hg:wr.grownBy w47 (some go42):=(by rw [hw];exact HP46.2);have hp_:Kd.R Kd.string 9 w47 w.heap.size (fun _=>True) (.slice (some ⟨go42,0,none⟩) x9_2.length co42) y369:=(by rw [hw,Ny369.out];exact HP46.1);clear HP46;have n0_:=Aside0.mk (hp_);have n1_:=Aside0.mk ((by rw [hw];exact below_set (HB.out) GB42.out:Below w.heap.size w w47));clear HO_9;clear HB;have HO_9:=n0_;have HB:=n1_;clear n0_ n1_;clear hg hw hp_;have q48:((ji43):Int) ≤ ((x9_2.length:Int):Int):=of_decide_eq_true (by first|(with_reducible assumption)|assumption);obtain ⟨i048,hi048,_,hsz48,_⟩:=info_parts info9;have hcut48:=cut_to (P:=Tryd.prog) 22 9 .i64 Tryd.underlying22 hi048 (some ⟨go42,0,none⟩) x9_2.length co42 (ji43) (of_decide_eq_true (by first|(with_reducible assumption)|assumption)) q48 (Kd.R_reads' HO_9.out).2.1;have hn_:=(Kd.R_reads' HO_9.out).1;have hr48:=Kd.R_take (m:=((ji43):Int).toNat) HO_9.out (by omega);have hy48:y370.length = ((ji43):Int).toNat:=(by rw [Ny370.out,List.length_take];omega);clear hn_;rw [← Ny370.out] at hr48;rw [← hy48] at hr48 hcut48;clear hy48 hi048 hsz48 HO_9;have HO372:=Aside0.mk hr48;clear hr48;replace q48:=eq_true q48))
              go_ret
              exact ⟨_,by first|rfl|(simp <;> rfl)|(simp only [← hji12,← hji43];first|rfl|(simp <;> rfl))|(simp [*] <;> rfl),by (with_reducible repeat (first|apply Kd.R_alloc|apply Kd.R_drewN|apply Kd.R_drew));exact HO372.out,by repeat (first|(with_reducible first|exact HB.out|apply below_alloc|apply pw_below_drewN|apply below_drew1)|exact HB.out)⟩
             ·rw [if_neg c45] at H
              exact absurd H (by simp)
            ·rw [if_neg c44] at H
             exact absurd H (by simp)
           ·rw [if_neg c41] at H
            exact absurd H (by simp)
          ·rw [if_neg c40] at H
           exact absurd H (by simp)
      ·rw [if_neg c14] at H
       exact absurd H (by simp)
     ·rw [if_neg c13] at H
      exact absurd H (by simp)

def strings_Split.f (k:Nat) (a0:ByteArray) (a1:ByteArray):Option (List ByteArray):=(strings_genSplit.f k a0 a1 0 (-1)).bind fun t373=>(some t373)
theorem strings_Split.mono:∀ a0 a1 k,LeO (strings_Split.f k a0 a1) (strings_Split.f (k + 1) a0 a1):=by
 intro a0 a1 k
 unfold strings_Split.f
 repeat' first
   | (with_reducible exact strings_genSplit.mono _ _ _ _ _)
   | (with_reducible exact LeO.refl _)
   | (with_reducible exact LeO.none _)
   | (with_reducible refine LeO.ite ?_ ?_)
   | (with_reducible refine LeO.bind ?_ (fun _=>?_))
   | exact strings_genSplit.mono _ _ _ _ _
   | exact LeO.none _
   | refine LeO.ite ?_ ?_
   | refine LeO.bind ?_ (fun _=>?_)
theorem strings_Split.calls (k:Nat) (a0:ByteArray) (a1:ByteArray) (r:List ByteArray) (w:World) (h:strings_Split.f k a0 a1 = some r) :
  Calls Tryd.prog 63 #[.string a0, .string a1] w fun e w'=>∃ v0_:Value,e = .returned (v0_) ∧ Kd.R Kd.string 9 w' w.heap.size (fun _=>True) v0_ r ∧ Below w.heap.size w w':=by
 have HB:=Aside0.mk (Below.refl w.heap.size w)
 have H:((strings_genSplit.f k a0 a1 0 (-1)).bind fun t373=>(some t373)) = some r:=h
 clear h
 replace H:=Option.bind_eq_some_iff.mp H
 obtain ⟨t373,A30,H⟩:=H
 replace H:(some t373) = some r:=H
 have A3:=Aside0.mk A30
 clear A30
 obtain rfl:=Option.some.inj H
 go_enter Tryd.func63,Tryd.ntmps63
 go_wp2_with (first|((with_reducible refine gate_callee (f:=80) rfl ?_);refine goesL_ (some 7) rfl rfl Tryd.func80 (by kernel_rfl) rfl #[.string a0, .string a1, .int .i64 0, .int .i64 (-1)] rfl (by (try simp only [List.map_toArray,List.map_cons,List.map_nil]);first|done|rfl|(simp only [List.length_drop,List.length_take];rfl)) ?_;(with_reducible refine (strings_genSplit.calls k a0 a1 0 (-1) t373 _ A3.out).mono ?_);rintro e w4 ⟨v374,rfl,ho0,hb⟩;refine ⟨_,rfl,?_⟩;have n0_:=Aside0.mk (Kd.R_lower ho0 (below_size (by repeat (first|(with_reducible first|exact HB.out|apply below_alloc|apply pw_below_drewN|apply below_drew1)|exact HB.out))));have n1_:=Aside0.mk (below_step (by repeat (first|(with_reducible first|exact HB.out|apply below_alloc|apply pw_below_drewN|apply below_drew1)|exact HB.out)) hb);clear HB;have HO375:=n0_;have HB:=n1_;clear n0_ n1_;(try clear hb);(try clear hb2);(try clear hk);(try clear hi);(try clear ho0)))
 go_ret
 exact ⟨_,by first|rfl|(simp <;> rfl)|(simp [*] <;> rfl),by (with_reducible repeat (first|apply Kd.R_alloc|apply Kd.R_drewN|apply Kd.R_drew));exact HO375.out,by repeat (first|(with_reducible first|exact HB.out|apply below_alloc|apply pw_below_drewN|apply below_drew1)|exact HB.out)⟩

mutual
def impl_PathClean.l0:Nat → List ByteArray → List ByteArray → Int → Int → Option (List ByteArray)
 | 0,_,_,_,_=>none
 | k + 1,x3,x6,x7,x8=>if x8 < x7 then (if 0 ≤ x8 then (if x8 < (x6.length:Int) then (if (rdOf ByteArray.empty x6 x8).toList = ([]:List UInt8) then (impl_PathClean.j1 k x3 (rdOf ByteArray.empty x6 x8) x6 x7 x8 (rdOf ByteArray.empty x6 x8) ((rdOf ByteArray.empty x6 x8).toList == ([]:List UInt8))) else (impl_PathClean.j1 k x3 (rdOf ByteArray.empty x6 x8) x6 x7 x8 (rdOf ByteArray.empty x6 x8) ((rdOf ByteArray.empty x6 x8).toList == ([46]:List UInt8)))) else (none)) else (none)) else (some x3)
def impl_PathClean.j1:Nat → List ByteArray → ByteArray → List ByteArray → Int → Int → ByteArray → Bool → Option (List ByteArray)
 | 0,_,_,_,_,_,_,_=>none
 | k + 1,x3,x5,x6,x7,x8,x12,x13=>if x13 = true then (impl_PathClean.l0 k x3 x6 x7 (wrap64 (x8 + 1))) else (if x12.toList = ([46,46]:List UInt8) then (if (x3.length:Int) > 0 then (if 0 ≤ (wrap64 ((x3.length:Int) - 1)) then (if (wrap64 ((x3.length:Int) - 1)) ≤ (x3.length:Int) then (impl_PathClean.l0 k (x3.take ((wrap64 ((x3.length:Int) - 1)):Int).toNat) x6 x7 (wrap64 (x8 + 1))) else (none)) else (none)) else (impl_PathClean.l0 k x3 x6 x7 (wrap64 (x8 + 1)))) else (if x3.length < 8796093022208 then (impl_PathClean.l0 k (x3 ++ [x5]) x6 x7 (wrap64 (x8 + 1))) else (none)))
end
def impl_PathClean.f (k:Nat) (l0:List ByteArray):Option (List ByteArray):=impl_PathClean.l0 k ([]:List ByteArray) l0 (l0.length:Int) 0
theorem impl_PathClean.mono_l:∀ k,(∀ y0 y1 y2 y3,LeO (impl_PathClean.l0 k y0 y1 y2 y3) (impl_PathClean.l0 (k + 1) y0 y1 y2 y3)) ∧ (∀ y0 y1 y2 y3 y4 y5 y6,LeO (impl_PathClean.j1 k y0 y1 y2 y3 y4 y5 y6) (impl_PathClean.j1 (k + 1) y0 y1 y2 y3 y4 y5 y6))
 | 0=>⟨fun _ _ _ _ r h=>by simp [impl_PathClean.l0] at h,fun _ _ _ _ _ _ _ r h=>by simp [impl_PathClean.j1] at h⟩
 | k + 1=>by
  obtain ⟨ih0,ih1⟩:=impl_PathClean.mono_l k
  refine ⟨?_,?_⟩
  ·intro y0 y1 y2 y3
   unfold impl_PathClean.l0
   repeat' first
   | (with_reducible exact ih0 _ _ _ _)
   | (with_reducible exact ih1 _ _ _ _ _ _ _)
   | (with_reducible exact LeO.refl _)
   | (with_reducible exact LeO.none _)
   | (with_reducible refine LeO.ite ?_ ?_)
   | (with_reducible refine LeO.bind ?_ (fun _=>?_))
   | exact ih0 _ _ _ _
   | exact ih1 _ _ _ _ _ _ _
   | exact LeO.none _
   | refine LeO.ite ?_ ?_
   | refine LeO.bind ?_ (fun _=>?_)
  ·intro y0 y1 y2 y3 y4 y5 y6
   unfold impl_PathClean.j1
   repeat' first
   | (with_reducible exact ih0 _ _ _ _)
   | (with_reducible exact ih1 _ _ _ _ _ _ _)
   | (with_reducible exact LeO.refl _)
   | (with_reducible exact LeO.none _)
   | (with_reducible refine LeO.ite ?_ ?_)
   | (with_reducible refine LeO.bind ?_ (fun _=>?_))
   | exact ih0 _ _ _ _
   | exact ih1 _ _ _ _ _ _ _
   | exact LeO.none _
   | refine LeO.ite ?_ ?_
   | refine LeO.bind ?_ (fun _=>?_)
theorem impl_PathClean.mono:∀ a0 k,LeO (impl_PathClean.f k a0) (impl_PathClean.f (k + 1) a0):=by
 intro a0 k
 obtain ⟨ih0,ih1⟩:=impl_PathClean.mono_l k
 unfold impl_PathClean.f
 repeat' first
   | (with_reducible exact ih0 _ _ _ _)
   | (with_reducible exact ih1 _ _ _ _ _ _ _)
   | (with_reducible exact LeO.refl _)
   | (with_reducible exact LeO.none _)
   | (with_reducible refine LeO.ite ?_ ?_)
   | (with_reducible refine LeO.bind ?_ (fun _=>?_))
   | exact ih0 _ _ _ _
   | exact ih1 _ _ _ _ _ _ _
   | exact LeO.none _
   | refine LeO.ite ?_ ?_
   | refine LeO.bind ?_ (fun _=>?_)
theorem impl_PathClean.calls (k:Nat) (A0:Option Addr) (c0:Nat) (l0:List ByteArray) (r:List ByteArray) (w:World) (hr0:Kd.C Kd.string w A0 l0.length l0) (hc0:l0.length ≤ c0) (h:impl_PathClean.f k l0 = some r) :
  Calls Tryd.prog 64 #[.slice A0 l0.length c0] w fun e w'=>∃ v0_:Value,e = .returned (v0_) ∧ Kd.R Kd.string 9 w' w.heap.size (fun _=>True) v0_ r ∧ Below w.heap.size w w':=by
 have HR0:=Aside0.mk hr0
 have HC0:=Aside0.mk hc0
 clear hr0 hc0
 have HB:=Aside0.mk (Below.refl w.heap.size w)
 have H:(impl_PathClean.l0 k ([]:List ByteArray) l0 (l0.length:Int) 0) = some r:=h
 clear h
 have H':=Aside0.mk H
 clear H
 go_enter Tryd.func64,Tryd.ntmps64
 go_wp2
 go_step3
 go_wp2
 go_step3
 go_wp2
 go_loopg [3,8] k (fun kq v3 v8 w'=>∃ (x3_1:List ByteArray) (x8_1:Int),v8 = .int .i64 x8_1 ∧ Aside0 (impl_PathClean.l0 kq x3_1 l0 (l0.length:Int) x8_1 = some r) ∧ Aside0 (kq ≤ k) ∧ Aside0 (Kd.R Kd.string 9 w' w.heap.size (fun _=>True) v3 x3_1) ∧ Aside0 (Below w.heap.size w w'))
 case atStart=>exact ⟨(([]:List ByteArray)),(0),(by first|rfl|(simp;done)|(simp only [i64_w,i32_w];done)|(simp only [i64_w,i32_w];rfl)|(simp [*];done)|(simp [emp_bne,emp_beq];done)),H',⟨Nat.le_refl _⟩,⟨by first|exact Kd.R_nil _ _ _ _ _|exact Kd.N_nil _ _ _ _ _|exact Kd.V_nil _ _ _ _ _|exact Kd.Q_nil _ _ _ _ _|exact Kd.S_nil _ _ _ _ _⟩,⟨by repeat (first|(with_reducible first|exact HB.out|apply below_alloc|apply pw_below_drewN|apply below_drew1)|exact HB.out)⟩⟩
 case round =>
  clear H'
  obtain ⟨x3_1,x8_1,rfl,HA,HK1,HO_3,HB⟩:=hrel
  cases gk with
  | zero=>exact absurd HA.out (by simp [impl_PathClean.l0])
  | succ k1 =>
   have H:=HA.out
   clear HA
   simp only [impl_PathClean.l0] at H
   by_cases c2:x8_1 < (l0.length:Int)
   ·rw [if_pos c2] at H
    have c2b0:decide (x8_1 < (l0.length:Int)) = true:=decide_eq_true c2
    clear c2
    by_cases c3:0 ≤ x8_1
    ·rw [if_pos c3] at H
     have c3b0:decide (0 ≤ x8_1) = true:=decide_eq_true c3
     clear c3
     by_cases c4:x8_1 < (l0.length:Int)
     ·rw [if_pos c4] at H
      have c4b0:decide (x8_1 < (l0.length:Int)) = true:=decide_eq_true c4
      clear c4
      have HC5:=Aside0.mk H
      clear H
      have p376:0 ≤ (x8_1:Int):=of_decide_eq_true (by first|(with_reducible assumption)|assumption)
      have q376:x8_1 < (l0.length:Int):=of_decide_eq_true (by first|(with_reducible assumption)|assumption)
      obtain ⟨ad376,e376,hx376_0⟩:=Kd.at_string HR0.out x8_1 p376 q376
      cases e376
      replace hx376_0:=(HB.out.cell (World.block_lt_of_cell? w _ hx376_0)).trans hx376_0
      replace p376:=eq_true p376
      replace q376:=eq_true q376
      go_upto_if 13 with (fail)
      go_cut [13] (fun v13 wc=>∃ (kq:Nat) (x13_4:Bool),v13 = .bool x13_4 ∧ Aside0 (impl_PathClean.j1 kq x3_1 (rdOf ByteArray.empty l0 x8_1) l0 (l0.length:Int) x8_1 (rdOf ByteArray.empty l0 x8_1) x13_4 = some r) ∧ Aside0 (kq ≤ k1) ∧ Aside0 (Kd.R Kd.string 9 wc w.heap.size (fun _=>True) u3 x3_1) ∧ Aside0 (Below w.heap.size w wc))
      case first =>
       have H:=HC5.out
       clear HC5
       by_cases c6:(rdOf ByteArray.empty l0 x8_1).toList = ([]:List UInt8)
       ·rw [if_pos c6] at H
        (try (have c6b0:(rdOf ByteArray.empty l0 x8_1).toList.isEmpty = true:=by simpa using c6))
        have c6b1:((rdOf ByteArray.empty l0 x8_1).toList == ([]:List UInt8)) = true:=beq_iff_eq.mpr c6
        have c6b2:((rdOf ByteArray.empty l0 x8_1).toList != ([]:List UInt8)) = false:=bne_eq_false_iff_eq.mpr c6
        clear c6
        (first|rw [c6b0]|(simp only [i64_w,i32_w];rw [c6b0])|skip)
        have H':=Aside0.mk H
        clear H
        go_wp2
        go_meet
        case rel=>exact ⟨_,(((rdOf ByteArray.empty l0 x8_1).toList == ([]:List UInt8))),(by first|rfl|(simp;done)|(simp only [i64_w,i32_w];done)|(simp only [i64_w,i32_w];rfl)|(simp [*];done)|(simp [emp_bne,emp_beq];done)),H',⟨by have:=HK1.out;first|omega|exact Nat.le_refl _⟩,⟨by (with_reducible repeat (first|apply Kd.R_alloc|apply Kd.R_drewN|apply Kd.R_drew));exact HO_3.out⟩,⟨by repeat (first|(with_reducible first|exact HB.out|apply below_alloc|apply pw_below_drewN|apply below_drew1)|exact HB.out)⟩⟩
       ·rw [if_neg c6] at H
        (try (have c6b0:(rdOf ByteArray.empty l0 x8_1).toList.isEmpty = false:=by simpa using c6))
        have c6b1:((rdOf ByteArray.empty l0 x8_1).toList == ([]:List UInt8)) = false:=beq_eq_false_iff_ne.mpr c6
        have c6b2:((rdOf ByteArray.empty l0 x8_1).toList != ([]:List UInt8)) = true:=bne_iff_ne.mpr c6
        (first|rw [c6b0]|(simp only [i64_w,i32_w];rw [c6b0])|skip)
        have H':=Aside0.mk H
        clear H
        go_wp2
        go_meet
        case rel=>exact ⟨_,(((rdOf ByteArray.empty l0 x8_1).toList == ([46]:List UInt8))),(by first|rfl|(simp;done)|(simp only [i64_w,i32_w];done)|(simp only [i64_w,i32_w];rfl)|(simp [*];done)|(simp [emp_bne,emp_beq];done)),H',⟨by have:=HK1.out;first|omega|exact Nat.le_refl _⟩,⟨by (with_reducible repeat (first|apply Kd.R_alloc|apply Kd.R_drewN|apply Kd.R_drew));exact HO_3.out⟩,⟨by repeat (first|(with_reducible first|exact HB.out|apply below_alloc|apply pw_below_drewN|apply below_drew1)|exact HB.out)⟩⟩
      case rest =>
       clear HC5
       try clear c2
       try clear c2b0
       try clear p2
       try clear c3
       try clear c3b0
       try clear p3
       try clear q3
       try clear hx3
       try clear c4
       try clear c4b0
       try clear c6
       try clear c6b0
       try clear c6b1
       try clear c6b2
       try clear hx376_0
       try clear p376
       try clear q376
       obtain ⟨kq,x13_4,rfl,HA,HJ4,HO_3,HB⟩:=hcut
       cases kq with
       | zero=>exact absurd HA.out (by simp [impl_PathClean.j1])
       | succ kj4 =>
        have H:=HA.out
        clear HA
        simp only [impl_PathClean.j1] at H
        by_cases c7:x13_4 = true
        ·subst c7
         have H1:(impl_PathClean.l0 kj4 x3_1 l0 (l0.length:Int) (wrap64 (x8_1 + 1))) = some r:=by rw [if_pos rfl] at H;exact H
         clear H
         have H:=H1
         clear H1
         have H':=Aside0.mk H
         clear H
         go_wp2
         go_roundg kj4
         case measure=>have:=HK1.out;have:=HJ4.out;omega
         case rel=>exact ⟨(x3_1),(wrap64 (x8_1 + 1)),(by first|rfl|(simp;done)|(simp only [i64_w,i32_w];done)|(simp only [i64_w,i32_w];rfl)|(simp [*];done)|(simp [emp_bne,emp_beq];done)),H',⟨by have:=HK1.out;have:=HJ4.out;omega⟩,⟨by (with_reducible repeat (first|apply Kd.R_alloc|apply Kd.R_drewN|apply Kd.R_drew));exact HO_3.out⟩,⟨by repeat (first|(with_reducible first|exact HB.out|apply below_alloc|apply pw_below_drewN|apply below_drew1)|exact HB.out)⟩⟩
        ·replace c7:=Bool.eq_false_iff.mpr c7
         subst c7
         have H1:(if (rdOf ByteArray.empty l0 x8_1).toList = ([46,46]:List UInt8) then (if (x3_1.length:Int) > 0 then (if 0 ≤ (wrap64 ((x3_1.length:Int) - 1)) then (if (wrap64 ((x3_1.length:Int) - 1)) ≤ (x3_1.length:Int) then (impl_PathClean.l0 kj4 (x3_1.take ((wrap64 ((x3_1.length:Int) - 1)):Int).toNat) l0 (l0.length:Int) (wrap64 (x8_1 + 1))) else (none)) else (none)) else (impl_PathClean.l0 kj4 x3_1 l0 (l0.length:Int) (wrap64 (x8_1 + 1)))) else (if x3_1.length < 8796093022208 then (impl_PathClean.l0 kj4 (x3_1 ++ [(rdOf ByteArray.empty l0 x8_1)]) l0 (l0.length:Int) (wrap64 (x8_1 + 1))) else (none))) = some r:=by rw [if_neg (show ¬ (false = true) by decide)] at H;exact H
         clear H
         have H:=H1
         clear H1
         by_cases c8:(rdOf ByteArray.empty l0 x8_1).toList = ([46,46]:List UInt8)
         ·rw [if_pos c8] at H
          have c8b0:((rdOf ByteArray.empty l0 x8_1).toList == ([46,46]:List UInt8)) = true:=beq_iff_eq.mpr c8
          have c8b1:((rdOf ByteArray.empty l0 x8_1).toList != ([46,46]:List UInt8)) = false:=bne_eq_false_iff_eq.mpr c8
          clear c8
          by_cases c9:(x3_1.length:Int) > 0
          ·rw [if_pos c9] at H
           have c9b0:decide (0 < (x3_1.length:Int)) = true:=decide_eq_true c9
           have c9b1:decide (0 < x3_1.length) = true:=decide_eq_true (by omega)
           clear c9
           obtain ⟨ji10,hji10⟩:∃ j_:Int,(wrap64 ((x3_1.length:Int) - 1)) = j_:=⟨_,rfl⟩
           replace H:(if 0 ≤ (ji10) then (if (ji10) ≤ (x3_1.length:Int) then (impl_PathClean.l0 kj4 (x3_1.take ((ji10):Int).toNat) l0 (l0.length:Int) (wrap64 (x8_1 + 1))) else (none)) else (none)) = some r:=by first|(rw [hji10] at H;exact H)|(simp only [hji10] at H ⊢;exact H)
           have hji10w:(IntKind.i64.wrap ((x3_1.length:Int) - 1)) = ji10:=(i64_w _).trans hji10
           by_cases c11:0 ≤ (ji10)
           ·rw [if_pos c11] at H
            have c11b0:=eq_true c11
            have c11b1:=decide_eq_true c11
            clear c11
            by_cases c12:(ji10) ≤ (x3_1.length:Int)
            ·rw [if_pos c12] at H
             have c12b0:=eq_true c12
             have c12b1:=decide_eq_true c12
             clear c12
             obtain ⟨y377,hy377⟩:∃ y_:List ByteArray,y_ = (x3_1.take ((ji10):Int).toNat):=⟨_,rfl⟩
             replace H:(impl_PathClean.l0 kj4 y377 l0 (l0.length:Int) (wrap64 (x8_1 + 1))) = some r:=by first|(rw [hy377];with_reducible exact H)|(have H2_:=(Option.bind_some _ _).symm.trans H;rw [hy377];with_reducible exact H2_)|(have H2_:=(Option.bind_some _ _).symm.trans H;with_reducible exact H2_)|with_reducible exact H|(rw [hy377];exact H)|exact H
             have Ny377:=Aside0.mk hy377
             clear hy377
             have H':=Aside0.mk H
             clear H
             obtain ⟨Ao13,co13,eo13⟩:=Kd.R_slice HO_3.out
             subst eo13
             have q14:((ji10):Int) ≤ ((x3_1.length:Int):Int):=of_decide_eq_true (by first|(with_reducible assumption)|assumption)
             obtain ⟨i014,hi014,_,hsz14,_⟩:=info_parts info9
             have hcut14:=cut_to (P:=Tryd.prog) 22 9 .i64 Tryd.underlying22 hi014 Ao13 x3_1.length co13 (ji10) (of_decide_eq_true (by first|(with_reducible assumption)|assumption)) q14 (Kd.R_reads' HO_3.out).2.1
             have hr14:=Kd.R_take (m:=((ji10):Int).toNat) HO_3.out (by omega)
             have hy14:y377.length = ((ji10):Int).toNat:=(by rw [Ny377.out,List.length_take];omega)
             rw [← Ny377.out] at hr14
             rw [← hy14] at hr14 hcut14
             clear hy14 hi014 hsz14 HO_3
             have HO379:=Aside0.mk hr14
             clear hr14
             replace q14:=eq_true q14
             go_wp2
             go_roundg kj4
             case measure=>have:=HK1.out;have:=HJ4.out;omega
             case rel=>exact ⟨(y377),(wrap64 (x8_1 + 1)),(by first|rfl|(simp;done)|(simp only [i64_w,i32_w];done)|(simp only [i64_w,i32_w];rfl)|(simp [*];done)|(simp [emp_bne,emp_beq];done)),H',⟨by have:=HK1.out;have:=HJ4.out;omega⟩,⟨by (with_reducible repeat (first|apply Kd.R_alloc|apply Kd.R_drewN|apply Kd.R_drew));exact HO379.out⟩,⟨by repeat (first|(with_reducible first|exact HB.out|apply below_alloc|apply pw_below_drewN|apply below_drew1)|exact HB.out)⟩⟩
            ·rw [if_neg c12] at H
             exact absurd H (by simp)
           ·rw [if_neg c11] at H
            exact absurd H (by simp)
          ·rw [if_neg c9] at H
           have c9b0:decide (0 < (x3_1.length:Int)) = false:=decide_eq_false c9
           have c9b1:decide (0 < x3_1.length) = false:=decide_eq_false (by omega)
           clear c9
           have H':=Aside0.mk H
           clear H
           obtain ⟨Ao15,co15,eo15⟩:=Kd.R_slice HO_3.out
           subst eo15
           go_wp2
           go_roundg kj4
           case measure=>have:=HK1.out;have:=HJ4.out;omega
           case rel=>exact ⟨(x3_1),(wrap64 (x8_1 + 1)),(by first|rfl|(simp;done)|(simp only [i64_w,i32_w];done)|(simp only [i64_w,i32_w];rfl)|(simp [*];done)|(simp [emp_bne,emp_beq];done)),H',⟨by have:=HK1.out;have:=HJ4.out;omega⟩,⟨by (with_reducible repeat (first|apply Kd.R_alloc|apply Kd.R_drewN|apply Kd.R_drew));exact HO_3.out⟩,⟨by repeat (first|(with_reducible first|exact HB.out|apply below_alloc|apply pw_below_drewN|apply below_drew1)|exact HB.out)⟩⟩
         ·rw [if_neg c8] at H
          have c8b0:((rdOf ByteArray.empty l0 x8_1).toList == ([46,46]:List UInt8)) = false:=beq_eq_false_iff_ne.mpr c8
          have c8b1:((rdOf ByteArray.empty l0 x8_1).toList != ([46,46]:List UInt8)) = true:=bne_iff_ne.mpr c8
          by_cases c16:x3_1.length < 8796093022208
          ·rw [if_pos c16] at H
           have LMc16:=Aside0.mk c16
           clear c16
           obtain ⟨y380,hy380⟩:∃ y_:List ByteArray,y_ = (x3_1 ++ [(rdOf ByteArray.empty l0 x8_1)]):=⟨_,rfl⟩
           replace H:(impl_PathClean.l0 kj4 y380 l0 (l0.length:Int) (wrap64 (x8_1 + 1))) = some r:=by first|(rw [hy380];with_reducible exact H)|(have H2_:=(Option.bind_some _ _).symm.trans H;rw [hy380];with_reducible exact H2_)|(have H2_:=(Option.bind_some _ _).symm.trans H;with_reducible exact H2_)|with_reducible exact H|(rw [hy380];exact H)|exact H
           have Ny380:=Aside0.mk hy380
           clear hy380
           have H':=Aside0.mk H
           clear H
           go_wp2_with (first|((with_reducible refine gate_builtin (b:=.append) (xs:=#[.tmp 26, .tmp 28]) rfl ?_);at_builtin;refine Kd.R_append Kd.string (w0:=w) w.heap.size rfl (.tmp 26) (.tmp 28) 22 9 (.string ⟨#[]⟩) 16 rfl Tryd.underlying22 info9 rfl (by decide) (by omega) u3 x3_1 (rdOf ByteArray.empty l0 x8_1) [.string (rdOf ByteArray.empty l0 x8_1)] (fun _=>True) (fun _=>False) rfl rfl ?aP (fun _ hk=>hk.elim) ?aF ?aO ?aB ?aS ?aL ?_;(case aP=>exact rfl);(case aB=>exact (by repeat (first|(with_reducible first|exact HB.out|apply below_alloc|apply pw_below_drewN|apply below_drew1)|exact HB.out)));(case aF=>exact (fun _ _=>trivial));(case aO=>exact (by (with_reducible repeat (first|apply Kd.R_alloc|apply Kd.R_drewN|apply Kd.R_drew));exact HO_3.out));(case aS=>exact (below_size (by repeat (first|(with_reducible first|exact HB.out|apply below_alloc|apply pw_below_drewN|apply below_drew1)|exact HB.out))));(case aL=>have:=LMc16.out;omega);intro v381 w17 ho hb hg hat;rw [← Ny380.out] at ho;have n0_:=Aside0.mk (hb);have n1_:=Aside0.mk (ho);clear HB;clear HO_3;have HB:=n0_;have HO382:=n1_;clear n0_ n1_;clear ho hb hg hat))
           go_roundg kj4
           case measure=>have:=HK1.out;have:=HJ4.out;omega
           case rel=>exact ⟨(y380),(wrap64 (x8_1 + 1)),(by first|rfl|(simp;done)|(simp only [i64_w,i32_w];done)|(simp only [i64_w,i32_w];rfl)|(simp [*];done)|(simp [emp_bne,emp_beq];done)),H',⟨by have:=HK1.out;have:=HJ4.out;omega⟩,⟨by (with_reducible repeat (first|apply Kd.R_alloc|apply Kd.R_drewN|apply Kd.R_drew));exact HO382.out⟩,⟨by repeat (first|(with_reducible first|exact HB.out|apply below_alloc|apply pw_below_drewN|apply below_drew1)|exact HB.out)⟩⟩
          ·rw [if_neg c16] at H
           exact absurd H (by simp)
     ·rw [if_neg c4] at H
      exact absurd H (by simp)
    ·rw [if_neg c3] at H
     exact absurd H (by simp)
   ·rw [if_neg c2] at H
    have c2b0:decide (x8_1 < (l0.length:Int)) = false:=decide_eq_false c2
    clear c2
    obtain rfl:=Option.some.inj H
    go_wp2
    (try rw [Exit.noGoto_ret])
    go_ret
    exact ⟨_,by first|rfl|(simp <;> rfl)|(simp [*] <;> rfl),by (with_reducible repeat (first|apply Kd.R_alloc|apply Kd.R_drewN|apply Kd.R_drew));exact HO_3.out,by repeat (first|(with_reducible first|exact HB.out|apply below_alloc|apply pw_below_drewN|apply below_drew1)|exact HB.out)⟩

end Go.Proofs.YtochmlkladpfgaaDoor.P
