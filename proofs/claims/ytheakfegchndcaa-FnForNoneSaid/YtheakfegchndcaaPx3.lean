-- Written by a program of this session (patch_print.py over the kit's print; given texts in wip/given).
-- Cut down by a program of this session (wip/tools/prune.py) to what its claim can name.
import Derived.Test.YtheakfegchndcaaPx0
namespace Go.Proofs.Ytheakfegchndcaa.P
open Go.RowKit Go.Proofs.YtheakfegchndcaaW.PrintWords Go.Proofs.YtheakfegchndcaaW.PrintLast Go.Proofs.YtheakfegchndcaaW.PrintMore
attribute [local go_sem] max2_int min2_int max_two min_two max_three min_three max_four min_four   -- for this text's walks alone
set_option linter.unusedVariables false
set_option linter.unusedSimpArgs false
set_option maxHeartbeats 8000000
set_option maxRecDepth 100000

/-! ### slices_Index_string_string: function 51 -/
def slices_Index_string_string.l0:Nat → List ByteArray → ByteArray → Int → Int → Option (Int)
 | 0,_,_,_,_=>none
 | k + 1,x0,x1,x7,x8=>if x8 < x7 then (if 0 ≤ x8 then (if x8 < (x0.length:Int) then (if x1.toList = (rdOf ByteArray.empty x0 x8).toList then (some x8) else (slices_Index_string_string.l0 k x0 x1 x7 (wrap64 (x8 + 1)))) else (none)) else (none)) else (some (-1))
def slices_Index_string_string.f (k:Nat) (l0:List ByteArray) (a1:ByteArray):Option (Int):=slices_Index_string_string.l0 k l0 a1 (l0.length:Int) 0
theorem slices_Index_string_string.mono_l:∀ k,(∀ y0 y1 y2 y3,LeO (slices_Index_string_string.l0 k y0 y1 y2 y3) (slices_Index_string_string.l0 (k + 1) y0 y1 y2 y3))
 | 0=>fun _ _ _ _ r h=>by simp [slices_Index_string_string.l0] at h
 | k + 1=>by
  have ih0:=slices_Index_string_string.mono_l k
  ·intro y0 y1 y2 y3
   unfold slices_Index_string_string.l0
   repeat' first
   | (with_reducible exact ih0 _ _ _ _)
   | (with_reducible exact LeO.refl _)
   | (with_reducible exact LeO.none _)
   | (with_reducible refine LeO.ite ?_ ?_)
   | (with_reducible refine LeO.bind ?_ (fun _=>?_))
   | exact ih0 _ _ _ _
   | exact LeO.none _
   | refine LeO.ite ?_ ?_
   | refine LeO.bind ?_ (fun _=>?_)
theorem slices_Index_string_string.mono:∀ a0 a1 k,LeO (slices_Index_string_string.f k a0 a1) (slices_Index_string_string.f (k + 1) a0 a1):=by
 intro a0 a1 k
 have ih0:=slices_Index_string_string.mono_l k
 unfold slices_Index_string_string.f
 repeat' first
   | (with_reducible exact ih0 _ _ _ _)
   | (with_reducible exact LeO.refl _)
   | (with_reducible exact LeO.none _)
   | (with_reducible refine LeO.ite ?_ ?_)
   | (with_reducible refine LeO.bind ?_ (fun _=>?_))
   | exact ih0 _ _ _ _
   | exact LeO.none _
   | refine LeO.ite ?_ ?_
   | refine LeO.bind ?_ (fun _=>?_)
theorem slices_Index_string_string.calls (k:Nat) (A0:Option Addr) (c0:Nat) (l0:List ByteArray) (a1:ByteArray) (r:Int) (w:World) (hr0:Kd.C Kd.string w A0 l0.length l0) (hc0:l0.length ≤ c0) (h:slices_Index_string_string.f k l0 a1 = some r) :
  Calls Try.prog 51 #[.slice A0 l0.length c0, .string a1] w fun e w'=>e = .returned (.int .i64 r) ∧ Drawn0 w w':=by
 have HR0:=Aside0.mk hr0
 have HC0:=Aside0.mk hc0
 clear hr0 hc0
 have H:(slices_Index_string_string.l0 k l0 a1 (l0.length:Int) 0) = some r:=h
 clear h
 have H':=Aside0.mk H
 clear H
 go_enter Try.func51,Try.ntmps51
 go_wp2
 go_loopg [8] k (fun kq v8 w'=>∃ (x8_1:Int),v8 = .int .i64 x8_1 ∧ Aside0 (slices_Index_string_string.l0 kq l0 a1 (l0.length:Int) x8_1 = some r) ∧ Aside0 (kq ≤ k) ∧ Drawn0 w w')
 case atStart=>exact ⟨(0),(by first|rfl|(simp;done)|(simp only [i64_w,i32_w];done)|(simp only [i64_w,i32_w];rfl)|(simp [*];done)|(simp [emp_bne,emp_beq];done)),H',⟨Nat.le_refl _⟩,by repeat (first|exact Drawn0.refl _|apply Drawn0.step)⟩
 case round =>
  clear H'
  try clear p2
  obtain ⟨x8_1,rfl,HA,HK1,⟨m1,rfl⟩⟩:=hrel
  cases gk with
  | zero=>exact absurd HA.out (by simp [slices_Index_string_string.l0])
  | succ k1 =>
   have H:=HA.out
   clear HA
   simp only [slices_Index_string_string.l0] at H
   by_cases c3:x8_1 < (l0.length:Int)
   ·rw [if_pos c3] at H
    have c3b0:decide (x8_1 < (l0.length:Int)) = true:=decide_eq_true c3
    clear c3
    by_cases c4:0 ≤ x8_1
    ·rw [if_pos c4] at H
     have c4b0:decide (0 ≤ x8_1) = true:=decide_eq_true c4
     clear c4
     by_cases c5:x8_1 < (l0.length:Int)
     ·rw [if_pos c5] at H
      have c5b0:decide (x8_1 < (l0.length:Int)) = true:=decide_eq_true c5
      clear c5
      by_cases c6:a1.toList = (rdOf ByteArray.empty l0 x8_1).toList
      ·rw [if_pos c6] at H
       have c6b0:(a1.toList == (rdOf ByteArray.empty l0 x8_1).toList) = true:=beq_iff_eq.mpr c6
       have c6b1:(a1.toList != (rdOf ByteArray.empty l0 x8_1).toList) = false:=bne_eq_false_iff_eq.mpr c6
       clear c6
       obtain rfl:=Option.some.inj H
       have p101:0 ≤ (x8_1:Int):=of_decide_eq_true (by first|(with_reducible assumption)|assumption)
       have q101:x8_1 < (l0.length:Int):=of_decide_eq_true (by first|(with_reducible assumption)|assumption)
       obtain ⟨ad101,e101,hx101_0⟩:=Kd.at_string HR0.out x8_1 p101 q101
       cases e101
       replace p101:=eq_true p101
       replace q101:=eq_true q101
       go_wp2
       go_ret
       exact ⟨by first|rfl|(simp;done)|(simp only [i64_w,i32_w];done)|(simp only [i64_w,i32_w];rfl)|(simp [*];done)|(simp [emp_bne,emp_beq];done),by repeat (first|exact Drawn0.refl _|apply Drawn0.step)⟩
      ·rw [if_neg c6] at H
       have c6b0:(a1.toList == (rdOf ByteArray.empty l0 x8_1).toList) = false:=beq_eq_false_iff_ne.mpr c6
       have c6b1:(a1.toList != (rdOf ByteArray.empty l0 x8_1).toList) = true:=bne_iff_ne.mpr c6
       have H':=Aside0.mk H
       clear H
       have p101:0 ≤ (x8_1:Int):=of_decide_eq_true (by first|(with_reducible assumption)|assumption)
       have q101:x8_1 < (l0.length:Int):=of_decide_eq_true (by first|(with_reducible assumption)|assumption)
       obtain ⟨ad101,e101,hx101_0⟩:=Kd.at_string HR0.out x8_1 p101 q101
       cases e101
       replace p101:=eq_true p101
       replace q101:=eq_true q101
       go_wp2
       go_roundg k1
       case measure=>have:=HK1.out;omega
       case rel=>exact ⟨(wrap64 (x8_1 + 1)),(by first|rfl|(simp;done)|(simp only [i64_w,i32_w];done)|(simp only [i64_w,i32_w];rfl)|(simp [*];done)|(simp [emp_bne,emp_beq];done)),H',⟨by have:=HK1.out;omega⟩,by repeat (first|exact Drawn0.refl _|apply Drawn0.step)⟩
     ·rw [if_neg c5] at H
      exact absurd H (by simp)
    ·rw [if_neg c4] at H
     exact absurd H (by simp)
   ·rw [if_neg c3] at H
    have c3b0:decide (x8_1 < (l0.length:Int)) = false:=decide_eq_false c3
    clear c3
    obtain rfl:=Option.some.inj H
    go_wp2
    go_ret
    exact ⟨by first|rfl|(simp;done)|(simp only [i64_w,i32_w];done)|(simp only [i64_w,i32_w];rfl)|(simp [*];done)|(simp [emp_bne,emp_beq];done),by repeat (first|exact Drawn0.refl _|apply Drawn0.step)⟩

/-! ### slices_Contains_string_string: function 33 -/
def slices_Contains_string_string.f (k:Nat) (l0:List ByteArray) (a1:ByteArray):Option (Bool):=(slices_Index_string_string.f k l0 a1).bind fun t102=>(some (decide (t102 ≥ 0)))
theorem slices_Contains_string_string.mono:∀ a0 a1 k,LeO (slices_Contains_string_string.f k a0 a1) (slices_Contains_string_string.f (k + 1) a0 a1):=by
 intro a0 a1 k
 unfold slices_Contains_string_string.f
 repeat' first
   | (with_reducible exact slices_Index_string_string.mono _ _ _)
   | (with_reducible exact LeO.refl _)
   | (with_reducible exact LeO.none _)
   | (with_reducible refine LeO.ite ?_ ?_)
   | (with_reducible refine LeO.bind ?_ (fun _=>?_))
   | exact slices_Index_string_string.mono _ _ _
   | exact LeO.none _
   | refine LeO.ite ?_ ?_
   | refine LeO.bind ?_ (fun _=>?_)
theorem slices_Contains_string_string.calls (k:Nat) (A0:Option Addr) (c0:Nat) (l0:List ByteArray) (a1:ByteArray) (r:Bool) (w:World) (hr0:Kd.C Kd.string w A0 l0.length l0) (hc0:l0.length ≤ c0) (h:slices_Contains_string_string.f k l0 a1 = some r) :
  Calls Try.prog 33 #[.slice A0 l0.length c0, .string a1] w fun e w'=>e = .returned (.bool r) ∧ Drawn0 w w':=by
 have HR0:=Aside0.mk hr0
 have HC0:=Aside0.mk hc0
 clear hr0 hc0
 have H:((slices_Index_string_string.f k l0 a1).bind fun t102=>(some (decide (t102 ≥ 0)))) = some r:=h
 clear h
 replace H:=Option.bind_eq_some_iff.mp H
 obtain ⟨t102,A30,H⟩:=H
 replace H:(some (decide (t102 ≥ 0))) = some r:=H
 have A3:=Aside0.mk A30
 clear A30
 obtain rfl:=Option.some.inj H
 go_enter Try.func33,Try.ntmps33
 go_wp2_with (first|((with_reducible refine gate_callee (f:=51) rfl ?_);refine goesL_ (some 7) rfl rfl Try.func51 (by kernel_rfl) rfl #[.slice A0 l0.length c0, .string a1] rfl (by (try simp only [List.map_toArray,List.map_cons,List.map_nil]);first|done|rfl|(simp only [List.length_drop,List.length_take];rfl)) ?_;(with_reducible refine (slices_Index_string_string.calls k _ _ l0 a1 t102 _ ?side1 ?side2 A3.out).mono ?_);(case side1=>repeat (first|exact HR0.out|(with_reducible refine Kd.C_alloc ?_ _)|(with_reducible refine Kd.C_drewN ?_ _)|(with_reducible refine Kd.C_drew ?_)));(case side2=>exact HC0.out);rintro e w' ⟨rfl,⟨nd,rfl⟩⟩;refine ⟨_,rfl,?_⟩))
 go_ret
 exact ⟨by first|rfl|(simp;done)|(simp only [i64_w,i32_w];done)|(simp only [i64_w,i32_w];rfl)|(simp [*];done)|(simp [emp_bne,emp_beq];done),by repeat (first|exact Drawn0.refl _|apply Drawn0.step)⟩

/-! ### impl_NoticeFor: function 12 -/
/-- Does a group speak to a name? (The numbers of functions and types are those of the seat of FnForOwn and its kin.) -/
def impl_NoticeFor.has (s:ByteArray) (g:S30):Bool:=g.f0.any fun y=>decide (s.toList = y.toList)
def impl_NoticeFor.go (s:ByteArray):List (S30) → List (S57) → Int → Option (List (S57) × Int)
 | [],rs,m=>some (rs,m)
 | g :: t,rs,m=>if impl_NoticeFor.has s g = true then (if rs.length + g.f1.length < 5864062014805 then impl_NoticeFor.go s t (rs ++ g.f1) (mx m g.f2) else none) else impl_NoticeFor.go s t rs m
def impl_NoticeFor.asked (l0:List (S30)) (a1:ByteArray):ByteArray:=if l0.any (impl_NoticeFor.has a1) = true then a1 else (⟨#[42]⟩:ByteArray)
def impl_NoticeFor.f (l0:List (S30)) (a1:ByteArray):Option ((List ByteArray) × (List (S57)) × Int) :=
 (impl_NoticeFor.go (impl_NoticeFor.asked l0 a1) l0 [] 0).bind fun r=>some ([a1],r.1,r.2)
theorem impl_NoticeFor.maker (s:ByteArray) (w:World) :
  Calls Try.prog 31 #[.string s] w fun e w'=>∃ B:Nat,e = .returned (.func (.func 32) #[] #[.pointer (some ⟨B,0,none⟩)]) ∧ w.heap.size ≤ B ∧ w'.heap[B]? = some (.cells #[.string s] 9 (0,0)) ∧ Below w.heap.size w w':=by
 go_enter Try.func31,Try.ntmps31
 go_wp2
 go_ret
 exact ⟨_,rfl,Nat.le_refl _,by (show (w.heap.push _)[w.heap.size]? = _;simp),below_alloc (Below.refl _ _) _⟩
theorem impl_NoticeFor.has_ev {l:List ByteArray} (s:ByteArray) (hl:l.length ≤ 9223372036854775807):∃ k,slices_Contains_string_string.f k l s = some (l.any fun y=>decide (s.toList = y.toList)):=by
 have loop:∀ (d:Nat) (i:Int),0 ≤ i → i ≤ l.length → (l.length:Int) - i ≤ d → ∃ k t,slices_Index_string_string.l0 k l s (l.length:Int) i = some t ∧ decide (t ≥ 0) = (l.drop i.toNat).any fun y=>decide (s.toList = y.toList):=by
  intro d
  induction d with
  | zero =>
   intro i h0 h1 hd
   refine ⟨1,-1,?_,?_⟩
   ·rw [slices_Index_string_string.l0,if_neg (by omega)]
   ·rw [List.drop_of_length_le (by omega)];rfl
  | succ d ih =>
   intro i h0 h1 hd
   by_cases hlt:i < (l.length:Int)
   rotate_left
   ·refine ⟨1,-1,?_,?_⟩
    ·rw [slices_Index_string_string.l0,if_neg (by omega)]
    ·rw [List.drop_of_length_le (by omega)];rfl
   have hi:i.toNat < l.length:=by omega
   have hr:rdOf ByteArray.empty l i = l[i.toNat]:=by
    unfold rdOf;rw [List.getD_eq_getElem?_getD,List.getElem?_eq_getElem hi];rfl
   have hw:wrap64 (i + 1) = i + 1:=by unfold wrap64;omega
   obtain ⟨k,t,hk,ht⟩:=ih (i + 1) (by omega) (by omega) (by omega)
   rw [List.drop_eq_getElem_cons hi,List.any_cons]
   by_cases e:s.toList = l[i.toNat].toList
   ·refine ⟨1,i,?_,?_⟩
    ·rw [slices_Index_string_string.l0,if_pos hlt,if_pos h0,if_pos hlt,hr,if_pos e]
    ·rw [decide_eq_true e,Bool.true_or,decide_eq_true (show i ≥ 0 by omega)]
   ·refine ⟨k + 1,t,?_,?_⟩
    ·rw [slices_Index_string_string.l0,if_pos hlt,if_pos h0,if_pos hlt,hr,if_neg e,hw];exact hk
    ·rw [decide_eq_false e,Bool.false_or,ht,show (i + 1).toNat = i.toNat + 1 by omega]
 obtain ⟨k,t,hk,ht⟩:=loop l.length 0 (by omega) (by omega) (by omega)
 refine ⟨k,?_⟩
 unfold slices_Contains_string_string.f slices_Index_string_string.f
 rw [hk,Option.bind_some,ht];rfl
theorem impl_NoticeFor.asks (s:ByteArray) (B:Nat) (x:S30) (A0 A1:Option Addr) (c0 c1:Nat) (w:World) (hB:w.heap[B]? = some (.cells #[.string s] 9 (0,0))) (hr:Kd.string.C w A0 x.f0.length x.f0) (hl:x.f0.length ≤ c0) :
  Calls Try.prog 32 #[.agg #[.slice A0 x.f0.length c0, .slice A1 x.f1.length c1, .int .i64 x.f2], .pointer (some ⟨B,0,none⟩)] w fun e w'=>e = .returned (.bool (impl_NoticeFor.has s x)) ∧ Below w.heap.size w w':=by
 have hlen:x.f0.length ≤ 9223372036854775807:=by
  have:=hr.2.1
  omega
 obtain ⟨k,hk⟩:=impl_NoticeFor.has_ev s hlen
 have hb:∀ o,Below w.heap.size w (w.alloc o):=fun o=>below_alloc (Below.refl _ _) o
 have HC:=Aside0.mk fun o=>slices_Contains_string_string.calls k A0 c0 x.f0 s _ (w.alloc o) (Kd.C_alloc hr o) hl hk
 have hB1:=Aside0.mk hB
 have hlt:=lt_of_block hB
 have hcell:∀ o,(w.alloc o).cell? ⟨B,0,none⟩ = some (.string s):=fun o=>(blk_cell (blk_alloc hB o) 0).trans rfl
 clear hB hr
 go_enter Try.func32,Try.ntmps32
 go_wp2_with (go_at_call 33;refine (HC.out _).mono ?_;rintro e w' ⟨rfl,hd⟩)
 go_ret
 exact ⟨rfl,below_step (hb _) hd.below⟩
/-- What of a group's place is read. -/
theorem impl_NoticeFor.row {w W:World} {A0:Option Addr} {l0:List S30} (hr:Kd.C k30 w A0 l0.length l0) (hb:Below w.heap.size w W) (j:Nat) (hj:j < l0.length) :
  ∃ ad A1 c1 A2 c2,A0 = some ad ∧ W.cell? (ad.add (j * 3)) = some (.slice A1 (rd_T30 l0 j).f0.length c1) ∧ W.cell? ⟨(ad.add (j * 3)).block,(ad.add (j * 3)).off + 1,none⟩ = some (.slice A2 (rd_T30 l0 j).f1.length c2) ∧ W.cell? ⟨(ad.add (j * 3)).block,(ad.add (j * 3)).off + 2,none⟩ = some (.int .i64 (rd_T30 l0 j).f2) ∧
   (rd_T30 l0 j).f0.length ≤ c1 ∧ Kd.string.C W A1 (rd_T30 l0 j).f0.length (rd_T30 l0 j).f0 ∧ (rd_T30 l0 j).f1.length ≤ c2 ∧ k57.C W A2 (rd_T30 l0 j).f1.length (rd_T30 l0 j).f1:=by
 obtain ⟨ad,A1,c1,A2,c2,e,h0,h1,h2,l1,g1,l2,g2⟩:=at_T30 hr (j:Int) (by omega) (by omega)
 rw [Int.toNat_natCast] at h0 h1 h2
 exact ⟨ad,A1,c1,A2,c2,e,(hb.cell (World.block_lt_of_cell? w _ h0)).trans h0,(hb.cell (World.block_lt_of_cell? w _ h1)).trans h1,(hb.cell (World.block_lt_of_cell? w _ h2)).trans h2,l1,Kd.C_below g1 hb,l2,Kd.C_below g2 hb⟩
theorem impl_NoticeFor.index (s:ByteArray) (B:Nat) (l0:List S30) (A0:Option Addr) (c0:Nat) (w:World) (hB:w.heap[B]? = some (.cells #[.string s] 9 (0,0))) (hr:Kd.C k30 w A0 l0.length l0) (hl:l0.length ≤ c0) :
  Calls Try.prog 52 #[.slice A0 l0.length c0, .func (.func 32) #[] #[.pointer (some ⟨B,0,none⟩)]] w fun e w'=>(∃ i:Int,e = .returned (.int .i64 i) ∧ decide (i ≥ 0) = l0.any (impl_NoticeFor.has s)) ∧ Below w.heap.size w w':=by
 have hlen:l0.length ≤ 9223372036854775807:=by
  have:=hr.2.1
  omega
 have HB:=Aside0.mk (fun (W:World) (hb:Below w.heap.size w W)=>blk_below hB hb)
 have HR:=Aside0.mk (fun (W:World) (hb:Below w.heap.size w W) j (hj:j < l0.length)=>impl_NoticeFor.row hr hb j hj)
 have HW:=Aside0.mk (Below.refl w.heap.size w)
 clear hB hr
 have hend:(l0.drop l0.length).any (impl_NoticeFor.has s) = false:=by rw [List.drop_length];rfl
 go_enter Try.func52,Try.ntmps52
 go_wp2
 go_loopg [8] l0.length (fun gg s8 wr=>∃ j:Nat,j ≤ l0.length ∧ l0.length - j ≤ gg ∧ s8 = .int .i64 j ∧ Aside0 (Below w.heap.size w wr) ∧ Aside0 (l0.any (impl_NoticeFor.has s) = (l0.drop j).any (impl_NoticeFor.has s)))
 case atStart=>exact ⟨0,Nat.zero_le _,by omega,rfl,HW,⟨by rw [List.drop_zero]⟩⟩
 case round =>
  obtain ⟨j,hj,hg,rfl,BW,A⟩:=hrel
  by_cases hlt:j < l0.length
  ·have hltz:(j:Int) < (l0.length:Int):=by omega
   obtain ⟨ad,A1,c1,A2,c2,rfl,h0,h1,h2,l1,g1,l2,g2⟩:=HR.out wr BW.out j hlt
   have hcall:=impl_NoticeFor.asks s B (rd_T30 l0 j) A1 A2 c1 c2 wr (HB.out wr BW.out) g1 l1
   have hd:(l0.drop j).any (impl_NoticeFor.has s) = (impl_NoticeFor.has s (rd_T30 l0 j) || (l0.drop (j + 1)).any (impl_NoticeFor.has s)):=by
    rw [List.drop_eq_getElem_cons hlt,List.any_cons]
    congr 2
    unfold rd_T30;rw [Int.toNat_natCast,List.getD_eq_getElem?_getD,List.getElem?_eq_getElem hlt];rfl
   have A2:=Aside0.mk (A.out.trans hd)
   clear A hd g1 g2
   generalize impl_NoticeFor.has s (rd_T30 l0 j) = b at hcall A2
   cases b with
   | true =>
    go_wp2_with fail
    refine hcall.mono ?_
    rintro e w' ⟨rfl,hb'⟩
    go_wp2
    go_ret
    exact ⟨⟨_,rfl,by rw [A2.out,Bool.true_or];exact decide_eq_true (by omega)⟩,below_step BW.out hb'⟩
   | false =>
    go_wp2_with fail
    refine hcall.mono ?_
    rintro e w' ⟨rfl,hb'⟩
    go_wp2
    go_roundg (l0.length - (j + 1))
    case measure=>omega
    case rel=>exact ⟨j + 1,by omega,by omega,by go_num,⟨below_step BW.out hb'⟩,⟨by rw [A2.out,Bool.false_or]⟩⟩
  ·have hltz:¬ (j:Int) < (l0.length:Int):=by omega
   have:j = l0.length:=by omega
   subst this
   go_wp2
   go_ret
   exact ⟨⟨_,rfl,by rw [A.out,hend];rfl⟩,BW.out⟩
theorem impl_NoticeFor.some_has (s:ByteArray) (B:Nat) (l0:List S30) (A0:Option Addr) (c0:Nat) (w:World) (hB:w.heap[B]? = some (.cells #[.string s] 9 (0,0))) (hr:Kd.C k30 w A0 l0.length l0) (hl:l0.length ≤ c0) :
  Calls Try.prog 34 #[.slice A0 l0.length c0, .func (.func 32) #[] #[.pointer (some ⟨B,0,none⟩)]] w fun e w'=>e = .returned (.bool (l0.any (impl_NoticeFor.has s))) ∧ Below w.heap.size w w':=by
 have hcall:=impl_NoticeFor.index s B l0 A0 c0 w hB hr hl
 clear hB hr
 go_enter Try.func34,Try.ntmps34
 go_wp2_with fail
 refine hcall.mono ?_
 rintro e w' ⟨⟨i,rfl,hi⟩,hb'⟩
 have HI:=Aside0.mk hi
 clear hi
 go_wp2
 go_ret
 exact ⟨by rw [← HI.out];rfl,hb'⟩
theorem impl_NoticeFor.put3 {w:World} {g:Nat} {t:TypeId} {a b c:Value} (h:w.heap[g]? = some (.cells #[a,b,c] t (0,0))) (a' b' c':Value):(((w.setCell ⟨g,0,none⟩ a').setCell ⟨g,1,none⟩ b').setCell ⟨g,2,none⟩ c').heap[g]? = some (.cells #[a',b',c'] t (0,0)) :=
 blk_put (blk_put (blk_put h 0 a' rfl) 1 b' rfl) 2 c' rfl
theorem impl_NoticeFor.far3 {w:World} {g g':Nat} {t:TypeId} {cs:Array Value} (h:w.heap[g]? = some (.cells cs t (0,0))) (hp:g ≠ g') (a b c:Value):(((w.setCell ⟨g',0,none⟩ a).setCell ⟨g',1,none⟩ b).setCell ⟨g',2,none⟩ c).heap[g]? = some (.cells cs t (0,0)) :=
 blk_far (blk_far (blk_far h hp a) hp b) hp c
theorem impl_NoticeFor.row3 {α:Type} {d:Kd α} {e base t g:Nat} {ok:Nat → Prop} {v:Value} {xs:List α} {w:World} {cells:Array Value} (h:d.R e w base ok v xs) (hb:w.heap[g]? = some (.cells cells t (0,0))) (ht:∀ q,q ∈ e :: d.E → q ≠ t) (a b c:Value) :
  d.R e (((w.setCell ⟨g,0,none⟩ a).setCell ⟨g,1,none⟩ b).setCell ⟨g,2,none⟩ c) base ok v xs :=
 Kd.R_mono (Kd.R_far (p:=⟨g,2,none⟩) (Kd.R_far (p:=⟨g,1,none⟩) (Kd.R_far (p:=⟨g,0,none⟩) (Kd.R_types h hb ht) (fun _ hk=>hk.2) a) (fun _ hk=>hk.2) b) (fun _ hk=>hk.2) c) (fun _ h_=>h_.1)
theorem impl_NoticeFor.below3 {w W:World} {g:Nat} (h:Below w.heap.size w W) (hg:w.heap.size ≤ g) (a b c:Value):Below w.heap.size w (((W.setCell ⟨g,0,none⟩ a).setCell ⟨g,1,none⟩ b).setCell ⟨g,2,none⟩ c) :=
 below_set (below_set (below_set h hg) hg) hg
theorem impl_NoticeFor.calls (A0:Option Addr) (c0:Nat) (l0:List (S30)) (a1:ByteArray) (r1:List ByteArray) (r2:List (S57)) (r3:Int) (w:World) (hr0:Kd.C k30 w A0 l0.length l0) (hc0:l0.length ≤ c0) (h:impl_NoticeFor.f l0 a1 = some (r1,r2,r3)) :
  Calls Try.prog 12 #[.slice A0 l0.length c0, .string a1] w fun e w'=>∃ v0_ v1_:Value,e = .returned (.agg #[v0_,v1_, .int .i64 r3]) ∧ Kd.R Kd.string 9 w' w.heap.size (fun _=>True) v0_ r1 ∧ Kd.R k57 57 w' w.heap.size (fun _=>True) v1_ r2 ∧ Below w.heap.size w w':=by
 obtain ⟨q,hgo,e⟩:=Option.bind_eq_some_iff.mp h
 simp only [Option.some.injEq,Prod.mk.injEq] at e
 obtain ⟨rfl,rfl,rfl⟩:=e
 obtain ⟨r2,r3⟩:=q
 clear h
 have HG:=Aside0.mk hgo
 have hlen:l0.length ≤ 9223372036854775807:=by
  have:=hr0.2.1
  omega
 have HC:=Aside0.mk hr0
 have HB:=Aside0.mk (Below.refl w.heap.size w)
 clear hgo hr0
 go_enter Try.func12,Try.ntmps12
 go_wp2_with ((with_reducible refine gate_dst (N:=4) rfl ?_);refine box_event ?hg (N:=4) ?hd (cs:=#[.slice none 0 0, .slice none 0 0, .int .i64 0]) (t:=30) ?hr ?_;(case hd=>rfl);(case hg=>rfl);(case hr=>go_simp <;> rfl);intro g4 hg w1 hbox hb;have HB1:=Aside0.mk (below_step HB.out hb);have K4:=Aside0.mk hbox;have G4:=Aside0.mk (show w.heap.size ≤ g4 by rw [hg];exact Nat.le_refl _);clear HB hb hbox hg)
 refine (impl_NoticeFor.maker a1 _).mono ?_
 rintro e w2 ⟨B,rfl,hBg,hBk,hb⟩
 have HB2:=Aside0.mk (below_step HB1.out hb)
 have K4b:=Aside0.mk (blk_below K4.out hb)
 have KB:=Aside0.mk hBk
 clear K4 HB1 hb hBk hBg
 go_wp2_with fail
 refine (impl_NoticeFor.some_has a1 B l0 A0 c0 w2 KB.out (Kd.C_below HC.out HB2.out) hc0).mono ?_
 rintro e w3 ⟨rfl,hb⟩
 have HB3:=Aside0.mk (below_step HB2.out hb)
 have K4:=Aside0.mk (blk_below K4b.out hb)
 clear K4b HB2 hb KB
 have hG:impl_NoticeFor.go (if l0.any (impl_NoticeFor.has a1) = true then a1 else (⟨#[42]⟩:ByteArray)) l0 [] 0 = some (r2,r3):=HG.out
 generalize l0.any (impl_NoticeFor.has a1) = b at hG ⊢
 have HG2:=Aside0.mk hG
 clear hG HG
 cases b with
 | true =>
  have HG:=Aside0.mk (show impl_NoticeFor.go a1 l0 [] 0 = some (r2,r3) from HG2.out)
  clear HG2
  go_wp2_with (first|((with_reducible refine gate_dst (N:=18) rfl ?_);refine Kd.R_lit Kd.string _ 9 ?hg (N:=18) ?hd (xs:=([a1]:List ByteArray)) (inner:=[.string a1]) (ok:=fun _=>True) (okp:=fun _=>True) ?hr ?hp (fun _ hk=>hk) trivial (Below.refl _ _) (Nat.le_refl _) (by simp) ?_;(case hd=>rfl);(case hg=>rfl);(case hr=>go_simp <;> rfl);(case hp=>exact (Reps.one (show Kd.M Kd.string _ _ _ a1 [.string a1] from rfl) (Reps.none _ _)));intro v5 w5 ho hb hg_ hnew_;clear hg_ hnew_;have HO:=Aside0.mk (Kd.R_lower ho (below_size HB3.out));have K4':=Aside0.mk (blk_below K4.out hb);have HB4:=Aside0.mk (below_step HB3.out hb);clear ho hb K4 HB3;obtain ⟨Ao,co,eo⟩:=Kd.R_slice HO.out;subst eo)|((with_reducible refine gate_dst (N:=7) rfl ?_);refine box_event ?hg (N:=7) ?hd (cs:=#[.slice none 0 0, .slice none 0 0, .int .i64 0]) (t:=30) ?hr ?_;(case hd=>rfl);(case hg=>rfl);(case hr=>go_simp <;> rfl);intro g7 hg w6 hbox hb;have HB5:=Aside0.mk (below_step HB4.out hb);have K4:=Aside0.mk (blk_below K4'.out hb);have HO5:=Aside0.mk (Kd.R_below HO.out hb);have K7:=Aside0.mk hbox;have G7:=Aside0.mk (show w.heap.size ≤ g7 by rw [hg];exact below_size HB4.out);have N74:=Aside0.mk (show g7 ≠ g4 by rw [hg];exact Nat.ne_of_gt (blk_lt K4'.out));clear HB4 K4' HO hb hbox hg;have hcz0:w6.cell? ⟨g7,0,none⟩ = some (.slice none 0 0):=(blk_cell K7.out 0).trans rfl;have hcz1:w6.cell? ⟨g7,1,none⟩ = some (.slice none 0 0):=(blk_cell K7.out 1).trans rfl;have hcz2:w6.cell? ⟨g7,2,none⟩ = some (.int .i64 0):=(blk_cell K7.out 2).trans rfl;have hfz0:=blk_frozen K7.out 0;have hfz1:=blk_frozen K7.out 1;have hfz2:=blk_frozen K7.out 2))
  go_loopg [22] l0.length (fun gg v22 wr=>∃ (j:Nat) (rs:List S57) (m:Int) (u:Value),j ≤ l0.length ∧ l0.length - j ≤ gg ∧ v22 = .int .i64 j ∧ Aside0 (impl_NoticeFor.go a1 (l0.drop j) rs m = some (r2,r3)) ∧ Aside0 (Kd.R Kd.string 9 wr w.heap.size (fun _=>True) (.slice Ao [a1].length co) [a1]) ∧ Aside0 (Kd.R k57 57 wr w.heap.size (fun _=>True) u rs) ∧ Aside0 (wr.heap[g4]? = some (.cells #[.slice none 0 0, .slice none 0 0, .int .i64 0] 30 (0,0))) ∧ Aside0 (wr.heap[g7]? = some (.cells #[.slice Ao [a1].length co,u, .int .i64 m] 30 (0,0))) ∧ Aside0 (Below w.heap.size w wr))
  case atStart=>exact ⟨0,[],0, .slice none 0 0,Nat.zero_le _,by omega,rfl,⟨by rw [List.drop_zero];exact HG.out⟩,⟨impl_NoticeFor.row3 HO5.out K7.out (by decide) _ _ _⟩,⟨Kd.R_nil _ _ _ _ _⟩,⟨impl_NoticeFor.far3 K4.out N74.out.symm _ _ _⟩,⟨impl_NoticeFor.put3 K7.out _ _ _⟩,⟨impl_NoticeFor.below3 HB5.out G7.out _ _ _⟩⟩
  case round =>
   clear HG HO5 K4 K7 HB5 hcz0 hcz1 hcz2 hfz0 hfz1 hfz2
   obtain ⟨j,rs,m,u,hj,hg,rfl,HG,HO,HU,K4,K7,BW⟩:=hrel
   by_cases hlt:j < l0.length
   ·have hltz:(j:Int) < (l0.length:Int):=by omega
    obtain ⟨ad,A1,c1,A2,c2,rfl,h0w,h1w,h2w,l1,g1,l2,g2⟩:=impl_NoticeFor.row HC.out (Below.refl _ _) j hlt
    have h0:=(BW.out.cell (World.block_lt_of_cell? w _ h0w)).trans h0w
    have h1:=(BW.out.cell (World.block_lt_of_cell? w _ h1w)).trans h1w
    have h2:=(BW.out.cell (World.block_lt_of_cell? w _ h2w)).trans h2w
    clear h0w h1w h2w
    have HL1:=Aside0.mk l1
    have HL2:=Aside0.mk l2
    have HC1:=Aside0.mk g1
    have HC2:=Aside0.mk g2
    clear l1 l2 g1 g2
    go_wp2_with ((with_reducible refine gate_dst (N:=9) rfl ?_);refine box_event ?hg (N:=9) ?hd (cs:=#[.slice none 0 0, .slice none 0 0, .int .i64 0]) (t:=30) ?hr ?_;(case hd=>rfl);(case hg=>rfl);(case hr=>go_simp <;> rfl);intro g9 hg9 w7 hbox hb;have HB6:=Aside0.mk (below_step BW.out hb);have K4':=Aside0.mk (blk_below K4.out hb);have K7':=Aside0.mk (blk_below K7.out hb);have HO6:=Aside0.mk (Kd.R_below HO.out hb);have HU6:=Aside0.mk (Kd.R_below HU.out hb);have K9:=Aside0.mk hbox;have G9:=Aside0.mk (show w.heap.size ≤ g9 by rw [hg9];exact below_size BW.out);have N94:=Aside0.mk (show g9 ≠ g4 by rw [hg9];exact Nat.ne_of_gt (blk_lt K4.out));have N97:=Aside0.mk (show g9 ≠ g7 by rw [hg9];exact Nat.ne_of_gt (blk_lt K7.out));clear BW K4 K7 HO HU hb hbox hg9;have hcz0:w7.cell? ⟨g9,0,none⟩ = some (.slice none 0 0):=(blk_cell K9.out 0).trans rfl;have hcz1:w7.cell? ⟨g9,1,none⟩ = some (.slice none 0 0):=(blk_cell K9.out 1).trans rfl;have hcz2:w7.cell? ⟨g9,2,none⟩ = some (.int .i64 0):=(blk_cell K9.out 2).trans rfl;have hfz0:=blk_frozen K9.out 0;have hfz1:=blk_frozen K9.out 1;have hfz2:=blk_frozen K9.out 2)
    clear hcz0 hcz1 hcz2 hfz0 hfz1 hfz2 h0 h1 h2
    have BW:=Aside0.mk (impl_NoticeFor.below3 HB6.out G9.out (.slice A1 (rd_T30 l0 j).f0.length c1) (.slice A2 (rd_T30 l0 j).f1.length c2) (.int .i64 (rd_T30 l0 j).f2))
    have K4:=Aside0.mk (impl_NoticeFor.far3 K4'.out N94.out.symm (.slice A1 (rd_T30 l0 j).f0.length c1) (.slice A2 (rd_T30 l0 j).f1.length c2) (.int .i64 (rd_T30 l0 j).f2))
    have K7:=Aside0.mk (impl_NoticeFor.far3 K7'.out N97.out.symm (.slice A1 (rd_T30 l0 j).f0.length c1) (.slice A2 (rd_T30 l0 j).f1.length c2) (.int .i64 (rd_T30 l0 j).f2))
    have HO:=Aside0.mk (impl_NoticeFor.row3 HO6.out K9.out (by decide) (.slice A1 (rd_T30 l0 j).f0.length c1) (.slice A2 (rd_T30 l0 j).f1.length c2) (.int .i64 (rd_T30 l0 j).f2))
    have HU:=Aside0.mk (impl_NoticeFor.row3 HU6.out K9.out (by decide) (.slice A1 (rd_T30 l0 j).f0.length c1) (.slice A2 (rd_T30 l0 j).f1.length c2) (.int .i64 (rd_T30 l0 j).f2))
    have K9':=Aside0.mk (impl_NoticeFor.put3 K9.out (.slice A1 (rd_T30 l0 j).f0.length c1) (.slice A2 (rd_T30 l0 j).f1.length c2) (.int .i64 (rd_T30 l0 j).f2))
    clear HB6 K4' K7' HO6 HU6 K9
    generalize (((w7.setCell ⟨g9,0,none⟩ (.slice A1 (rd_T30 l0 j).f0.length c1)).setCell ⟨g9,1,none⟩ (.slice A2 (rd_T30 l0 j).f1.length c2)).setCell ⟨g9,2,none⟩ (.int .i64 (rd_T30 l0 j).f2)) = w8 at BW K4 K7 HO HU K9' ⊢
    have hcz0:w8.cell? ⟨g9,0,none⟩ = some (.slice A1 (rd_T30 l0 j).f0.length c1):=(blk_cell K9'.out 0).trans rfl
    have hcz1:w8.cell? ⟨g9,1,none⟩ = some (.slice A2 (rd_T30 l0 j).f1.length c2):=(blk_cell K9'.out 1).trans rfl
    have hcz2:w8.cell? ⟨g9,2,none⟩ = some (.int .i64 (rd_T30 l0 j).f2):=(blk_cell K9'.out 2).trans rfl
    go_region_with (first|(go_at_call 31;refine (impl_NoticeFor.maker a1 _).mono ?_;rintro e w9 ⟨B2,rfl,hBg,hBk,hb⟩;have KB2:=Aside0.mk hBk;have HD1:=Aside0.mk hb;have BW9:=Aside0.mk (below_step (below_drew1 BW.out) hb);have hd0:w9.cell? ⟨g9,0,none⟩ = some (.slice A1 (rd_T30 l0 j).f0.length c1):=(blk_cell (blk_below (blk_drew K9'.out) hb) 0).trans rfl;have hd1:w9.cell? ⟨g9,1,none⟩ = some (.slice A2 (rd_T30 l0 j).f1.length c2):=(blk_cell (blk_below (blk_drew K9'.out) hb) 1).trans rfl;have hd2:w9.cell? ⟨g9,2,none⟩ = some (.int .i64 (rd_T30 l0 j).f2):=(blk_cell (blk_below (blk_drew K9'.out) hb) 2).trans rfl;clear hBg hBk hb)|(go_at_call 32;refine (impl_NoticeFor.asks a1 B2 (rd_T30 l0 j) A1 A2 c1 c2 w9 KB2.out (Kd.C_below HC1.out BW9.out) HL1.out).mono ?_;rintro e w10 ⟨rfl,hb2⟩;have HD2:=Aside0.mk (below_step HD1.out hb2);clear hb2))
    all_goals (
     have BW':=Aside0.mk (below_step (below_drew1 BW.out) HD2.out)
     have HO':=Aside0.mk (Kd.R_below (Kd.R_drew HO.out) HD2.out)
     have HU':=Aside0.mk (Kd.R_below (Kd.R_drew HU.out) HD2.out)
     have K4':=Aside0.mk (blk_below (blk_drew K4.out) HD2.out)
     have K7':=Aside0.mk (blk_below (blk_drew K7.out) HD2.out)
     have K9:=Aside0.mk (blk_below (blk_drew K9'.out) HD2.out)
     have hG:=HG.out
     rw [List.drop_eq_getElem_cons hlt,show l0[j] = rd_T30 l0 j by unfold rd_T30;rw [Int.toNat_natCast,List.getD_eq_getElem?_getD,List.getElem?_eq_getElem hlt];rfl] at hG
     simp only [impl_NoticeFor.go] at hG
     clear BW HO HU K4 K7 K9' hcz0 hcz1 hcz2 hd0 hd1 hd2 HD1 HD2 KB2 BW9 HG
     generalize impl_NoticeFor.has a1 (rd_T30 l0 j) = b at hG ⊢
     cases b with
     | false =>
      have HG:=Aside0.mk (show impl_NoticeFor.go a1 (l0.drop (j + 1)) rs m = some (r2,r3) by rw [if_neg Bool.false_ne_true] at hG;exact hG)
      clear hG
      go_wp2
      go_roundg (l0.length - (j + 1))
      case measure=>omega
      case rel=>exact ⟨j + 1,rs,m,u,by omega,by omega,by go_num,HG,HO',HU',K4',K7',BW'⟩
     | true =>
      rw [if_pos rfl] at hG
      by_cases hlim:rs.length + (rd_T30 l0 j).f1.length < 5864062014805
      rotate_left
      ·rw [if_neg hlim] at hG;cases hG
      rw [if_pos hlim] at hG
      have e0:mx m (rd_T30 l0 j).f2 = if m < (rd_T30 l0 j).f2 then (rd_T30 l0 j).f2 else m:=rfl
      rcases (show m < (rd_T30 l0 j).f2 ∨ m ≥ (rd_T30 l0 j).f2 by omega) with hm|hm
      ·rw [e0,if_pos hm] at hG
       clear e0
       have HG:=Aside0.mk hG
       have LM:=Aside0.mk hlim
       clear hG hlim
       have hc71:w10.cell? ⟨g7,1,none⟩ = some u:=(blk_cell K7'.out 1).trans rfl
       have hc91:w10.cell? ⟨g9,1,none⟩ = some (.slice A2 (rd_T30 l0 j).f1.length c2):=(blk_cell K9.out 1).trans rfl
       go_wp2_with ((with_reducible refine gate_builtin (b:=.append) (xs:=#[.tmp 32, .tmp 34]) rfl ?_);at_builtin;refine Kd.R_append_rows k57 (w0:=w) w.heap.size rfl (.tmp 32) (.tmp 34) 28 57 (.agg #[(.bool false),(.string ⟨#[]⟩)]) 24 rfl Try.underlying28 info57 rfl (by decide) (by omega) u rs ((rd_T30 l0 j).f1) _ _ _ (fun _=>True) (fun _=>False) rfl rfl ?aO ?aR (fun _ _ h=>h) (fun _ h=>h.elim) ?aF ?aB ?aS ?aL ?_;(case aR=>exact Kd.C_below HC2.out BW'.out);(case aB=>exact BW'.out);(case aF=>exact (fun _ _=>trivial));(case aO=>exact HU'.out);(case aS=>exact below_size BW'.out);(case aL=>have:=LM.out;omega);intro v11 w11 ho hb hg hat;have HO2:=Aside0.mk (Kd.R_over' HO'.out (Kd.R_typed HU'.out) (by decide) hg);have K42:=Aside0.mk (blk_grown (g:=g4) (o:=.cells #[.slice none 0 0, .slice none 0 0, .int .i64 0] 30 (0,0)) K4'.out hg (Kd.R_ne HU'.out K4'.out (by decide)));have K72:=Aside0.mk (blk_grown (g:=g7) (o:=.cells #[.slice Ao [a1].length co,u, .int .i64 m] 30 (0,0)) K7'.out hg (Kd.R_ne HU'.out K7'.out (by decide)));have K92:=Aside0.mk (blk_grown (g:=g9) (o:=.cells #[.slice A1 (rd_T30 l0 j).f0.length c1, .slice A2 (rd_T30 l0 j).f1.length c2, .int .i64 (rd_T30 l0 j).f2] 30 (0,0)) K9.out hg (Kd.R_ne HU'.out K9.out (by decide)));have BW2:=Aside0.mk hb;have HU2:=Aside0.mk ho;clear HO' K4' K7' K9 BW' HU' ho hb hg hat hc71 hc91;obtain ⟨Au,cu,eu⟩:=Kd.R_slice HU2.out;subst eu;have hc71:w11.cell? ⟨g7,1,none⟩ = some u:=(blk_cell K72.out 1).trans rfl;have hf71:=blk_frozen K72.out 1;have hc72:w11.cell? ⟨g7,2,none⟩ = some (.int .i64 m):=(blk_cell K72.out 2).trans rfl;have hf72:=blk_frozen K72.out 2;have hc92:w11.cell? ⟨g9,2,none⟩ = some (.int .i64 (rd_T30 l0 j).f2):=(blk_cell K92.out 2).trans rfl;have hn97:=N97.out;have hn79:=N97.out.symm)
       have HU3:=Aside0.mk (show Kd.R k57 57 w11 w.heap.size (fun _=>True) (.slice Au (rs.length + (rd_T30 l0 j).f1.length) cu) (rs ++ (rd_T30 l0 j).f1) by rw [← List.length_append];exact HU2.out)
       clear HU2
       go_roundg (l0.length - (j + 1))
       case measure=>omega
       case rel=>exact ⟨j + 1,rs ++ (rd_T30 l0 j).f1,_, .slice Au (rs.length + (rd_T30 l0 j).f1.length) cu,by omega,by omega,by go_num,HG,⟨Kd.R_mono (Kd.R_far (p:=⟨g7,2,none⟩) (Kd.R_far (p:=⟨g7,1,none⟩) (Kd.R_types HO2.out K72.out (by decide)) (fun _ hk=>hk.2) _) (fun _ hk=>hk.2) _) (fun _ h_=>h_.1)⟩,⟨Kd.R_mono (Kd.R_far (p:=⟨g7,2,none⟩) (Kd.R_far (p:=⟨g7,1,none⟩) (Kd.R_types HU3.out K72.out (by decide)) (fun _ hk=>hk.2) _) (fun _ hk=>hk.2) _) (fun _ h_=>h_.1)⟩,⟨blk_far (blk_far K42.out N74.out.symm _) N74.out.symm _⟩,⟨blk_put (blk_put K72.out 1 _ rfl) 2 _ rfl⟩,⟨below_set (below_set BW2.out G7.out) G7.out⟩⟩
      ·rw [e0,if_neg (by omega)] at hG
       clear e0
       have HG:=Aside0.mk hG
       have LM:=Aside0.mk hlim
       clear hG hlim
       have hc71:w10.cell? ⟨g7,1,none⟩ = some u:=(blk_cell K7'.out 1).trans rfl
       have hc91:w10.cell? ⟨g9,1,none⟩ = some (.slice A2 (rd_T30 l0 j).f1.length c2):=(blk_cell K9.out 1).trans rfl
       go_wp2_with ((with_reducible refine gate_builtin (b:=.append) (xs:=#[.tmp 32, .tmp 34]) rfl ?_);at_builtin;refine Kd.R_append_rows k57 (w0:=w) w.heap.size rfl (.tmp 32) (.tmp 34) 28 57 (.agg #[(.bool false),(.string ⟨#[]⟩)]) 24 rfl Try.underlying28 info57 rfl (by decide) (by omega) u rs ((rd_T30 l0 j).f1) _ _ _ (fun _=>True) (fun _=>False) rfl rfl ?aO ?aR (fun _ _ h=>h) (fun _ h=>h.elim) ?aF ?aB ?aS ?aL ?_;(case aR=>exact Kd.C_below HC2.out BW'.out);(case aB=>exact BW'.out);(case aF=>exact (fun _ _=>trivial));(case aO=>exact HU'.out);(case aS=>exact below_size BW'.out);(case aL=>have:=LM.out;omega);intro v11 w11 ho hb hg hat;have HO2:=Aside0.mk (Kd.R_over' HO'.out (Kd.R_typed HU'.out) (by decide) hg);have K42:=Aside0.mk (blk_grown (g:=g4) (o:=.cells #[.slice none 0 0, .slice none 0 0, .int .i64 0] 30 (0,0)) K4'.out hg (Kd.R_ne HU'.out K4'.out (by decide)));have K72:=Aside0.mk (blk_grown (g:=g7) (o:=.cells #[.slice Ao [a1].length co,u, .int .i64 m] 30 (0,0)) K7'.out hg (Kd.R_ne HU'.out K7'.out (by decide)));have K92:=Aside0.mk (blk_grown (g:=g9) (o:=.cells #[.slice A1 (rd_T30 l0 j).f0.length c1, .slice A2 (rd_T30 l0 j).f1.length c2, .int .i64 (rd_T30 l0 j).f2] 30 (0,0)) K9.out hg (Kd.R_ne HU'.out K9.out (by decide)));have BW2:=Aside0.mk hb;have HU2:=Aside0.mk ho;clear HO' K4' K7' K9 BW' HU' ho hb hg hat hc71 hc91;obtain ⟨Au,cu,eu⟩:=Kd.R_slice HU2.out;subst eu;have hc71:w11.cell? ⟨g7,1,none⟩ = some u:=(blk_cell K72.out 1).trans rfl;have hf71:=blk_frozen K72.out 1;have hc72:w11.cell? ⟨g7,2,none⟩ = some (.int .i64 m):=(blk_cell K72.out 2).trans rfl;have hf72:=blk_frozen K72.out 2;have hc92:w11.cell? ⟨g9,2,none⟩ = some (.int .i64 (rd_T30 l0 j).f2):=(blk_cell K92.out 2).trans rfl;have hn97:=N97.out;have hn79:=N97.out.symm)
       have HU3:=Aside0.mk (show Kd.R k57 57 w11 w.heap.size (fun _=>True) (.slice Au (rs.length + (rd_T30 l0 j).f1.length) cu) (rs ++ (rd_T30 l0 j).f1) by rw [← List.length_append];exact HU2.out)
       clear HU2
       go_roundg (l0.length - (j + 1))
       case measure=>omega
       case rel=>exact ⟨j + 1,rs ++ (rd_T30 l0 j).f1,_, .slice Au (rs.length + (rd_T30 l0 j).f1.length) cu,by omega,by omega,by go_num,HG,⟨Kd.R_mono (Kd.R_far (p:=⟨g7,2,none⟩) (Kd.R_far (p:=⟨g7,1,none⟩) (Kd.R_types HO2.out K72.out (by decide)) (fun _ hk=>hk.2) _) (fun _ hk=>hk.2) _) (fun _ h_=>h_.1)⟩,⟨Kd.R_mono (Kd.R_far (p:=⟨g7,2,none⟩) (Kd.R_far (p:=⟨g7,1,none⟩) (Kd.R_types HU3.out K72.out (by decide)) (fun _ hk=>hk.2) _) (fun _ hk=>hk.2) _) (fun _ h_=>h_.1)⟩,⟨blk_far (blk_far K42.out N74.out.symm _) N74.out.symm _⟩,⟨blk_put (blk_put K72.out 1 _ rfl) 2 _ rfl⟩,⟨below_set (below_set BW2.out G7.out) G7.out⟩⟩)
   ·have hltz:¬ (j:Int) < (l0.length:Int):=by omega
    obtain rfl:j = l0.length:=by omega
    have hG:=HG.out
    rw [List.drop_length] at hG
    simp only [impl_NoticeFor.go,Option.some.injEq,Prod.mk.injEq] at hG
    obtain ⟨rfl,rfl⟩:=hG
    clear HG
    obtain ⟨Au,cu,eu⟩:=Kd.R_slice HU.out
    subst eu
    have hc70:wr.cell? ⟨g7,0,none⟩ = some (.slice Ao [a1].length co):=(blk_cell K7.out 0).trans rfl
    have hc71:wr.cell? ⟨g7,1,none⟩ = some (.slice Au rs.length cu):=(blk_cell K7.out 1).trans rfl
    have hc72:wr.cell? ⟨g7,2,none⟩ = some (.int .i64 m):=(blk_cell K7.out 2).trans rfl
    have hc40:wr.cell? ⟨g4,0,none⟩ = some (.slice none 0 0):=(blk_cell K4.out 0).trans rfl
    have hc41:wr.cell? ⟨g4,1,none⟩ = some (.slice none 0 0):=(blk_cell K4.out 1).trans rfl
    have hc42:wr.cell? ⟨g4,2,none⟩ = some (.int .i64 0):=(blk_cell K4.out 2).trans rfl
    have hf40:=blk_frozen K4.out 0
    have hf41:=blk_frozen K4.out 1
    have hf42:=blk_frozen K4.out 2
    have hn74:=N74.out
    have hn47:=N74.out.symm
    go_wp2
    refine bodyPost_ret (results_cell_row rfl _ _ g4 30 #[.slice Ao [a1].length co, .slice Au rs.length cu, .int .i64 m] (0,0) _ rfl (impl_NoticeFor.put3 K4.out _ _ _) Try.underlying30 rfl (by kernel_rfl)) rfl ?_
    exact ⟨_,_,rfl,impl_NoticeFor.row3 HO.out K4.out (by decide) _ _ _,impl_NoticeFor.row3 HU.out K4.out (by decide) _ _ _,impl_NoticeFor.below3 BW.out G4.out _ _ _⟩
 | false =>
  have HG:=Aside0.mk (show impl_NoticeFor.go (⟨#[42]⟩:ByteArray) l0 [] 0 = some (r2,r3) from HG2.out)
  clear HG2
  go_wp2_with (first|((with_reducible refine gate_dst (N:=18) rfl ?_);refine Kd.R_lit Kd.string _ 9 ?hg (N:=18) ?hd (xs:=([a1]:List ByteArray)) (inner:=[.string a1]) (ok:=fun _=>True) (okp:=fun _=>True) ?hr ?hp (fun _ hk=>hk) trivial (Below.refl _ _) (Nat.le_refl _) (by simp) ?_;(case hd=>rfl);(case hg=>rfl);(case hr=>go_simp <;> rfl);(case hp=>exact (Reps.one (show Kd.M Kd.string _ _ _ a1 [.string a1] from rfl) (Reps.none _ _)));intro v5 w5 ho hb hg_ hnew_;clear hg_ hnew_;have HO:=Aside0.mk (Kd.R_lower ho (below_size HB3.out));have K4':=Aside0.mk (blk_below K4.out hb);have HB4:=Aside0.mk (below_step HB3.out hb);clear ho hb K4 HB3;obtain ⟨Ao,co,eo⟩:=Kd.R_slice HO.out;subst eo)|((with_reducible refine gate_dst (N:=7) rfl ?_);refine box_event ?hg (N:=7) ?hd (cs:=#[.slice none 0 0, .slice none 0 0, .int .i64 0]) (t:=30) ?hr ?_;(case hd=>rfl);(case hg=>rfl);(case hr=>go_simp <;> rfl);intro g7 hg w6 hbox hb;have HB5:=Aside0.mk (below_step HB4.out hb);have K4:=Aside0.mk (blk_below K4'.out hb);have HO5:=Aside0.mk (Kd.R_below HO.out hb);have K7:=Aside0.mk hbox;have G7:=Aside0.mk (show w.heap.size ≤ g7 by rw [hg];exact below_size HB4.out);have N74:=Aside0.mk (show g7 ≠ g4 by rw [hg];exact Nat.ne_of_gt (blk_lt K4'.out));clear HB4 K4' HO hb hbox hg;have hcz0:w6.cell? ⟨g7,0,none⟩ = some (.slice none 0 0):=(blk_cell K7.out 0).trans rfl;have hcz1:w6.cell? ⟨g7,1,none⟩ = some (.slice none 0 0):=(blk_cell K7.out 1).trans rfl;have hcz2:w6.cell? ⟨g7,2,none⟩ = some (.int .i64 0):=(blk_cell K7.out 2).trans rfl;have hfz0:=blk_frozen K7.out 0;have hfz1:=blk_frozen K7.out 1;have hfz2:=blk_frozen K7.out 2))
  go_loopg [22] l0.length (fun gg v22 wr=>∃ (j:Nat) (rs:List S57) (m:Int) (u:Value),j ≤ l0.length ∧ l0.length - j ≤ gg ∧ v22 = .int .i64 j ∧ Aside0 (impl_NoticeFor.go (⟨#[42]⟩:ByteArray) (l0.drop j) rs m = some (r2,r3)) ∧ Aside0 (Kd.R Kd.string 9 wr w.heap.size (fun _=>True) (.slice Ao [a1].length co) [a1]) ∧ Aside0 (Kd.R k57 57 wr w.heap.size (fun _=>True) u rs) ∧ Aside0 (wr.heap[g4]? = some (.cells #[.slice none 0 0, .slice none 0 0, .int .i64 0] 30 (0,0))) ∧ Aside0 (wr.heap[g7]? = some (.cells #[.slice Ao [a1].length co,u, .int .i64 m] 30 (0,0))) ∧ Aside0 (Below w.heap.size w wr))
  case atStart=>exact ⟨0,[],0, .slice none 0 0,Nat.zero_le _,by omega,rfl,⟨by rw [List.drop_zero];exact HG.out⟩,⟨impl_NoticeFor.row3 HO5.out K7.out (by decide) _ _ _⟩,⟨Kd.R_nil _ _ _ _ _⟩,⟨impl_NoticeFor.far3 K4.out N74.out.symm _ _ _⟩,⟨impl_NoticeFor.put3 K7.out _ _ _⟩,⟨impl_NoticeFor.below3 HB5.out G7.out _ _ _⟩⟩
  case round =>
   clear HG HO5 K4 K7 HB5 hcz0 hcz1 hcz2 hfz0 hfz1 hfz2
   obtain ⟨j,rs,m,u,hj,hg,rfl,HG,HO,HU,K4,K7,BW⟩:=hrel
   by_cases hlt:j < l0.length
   ·have hltz:(j:Int) < (l0.length:Int):=by omega
    obtain ⟨ad,A1,c1,A2,c2,rfl,h0w,h1w,h2w,l1,g1,l2,g2⟩:=impl_NoticeFor.row HC.out (Below.refl _ _) j hlt
    have h0:=(BW.out.cell (World.block_lt_of_cell? w _ h0w)).trans h0w
    have h1:=(BW.out.cell (World.block_lt_of_cell? w _ h1w)).trans h1w
    have h2:=(BW.out.cell (World.block_lt_of_cell? w _ h2w)).trans h2w
    clear h0w h1w h2w
    have HL1:=Aside0.mk l1
    have HL2:=Aside0.mk l2
    have HC1:=Aside0.mk g1
    have HC2:=Aside0.mk g2
    clear l1 l2 g1 g2
    go_wp2_with ((with_reducible refine gate_dst (N:=9) rfl ?_);refine box_event ?hg (N:=9) ?hd (cs:=#[.slice none 0 0, .slice none 0 0, .int .i64 0]) (t:=30) ?hr ?_;(case hd=>rfl);(case hg=>rfl);(case hr=>go_simp <;> rfl);intro g9 hg9 w7 hbox hb;have HB6:=Aside0.mk (below_step BW.out hb);have K4':=Aside0.mk (blk_below K4.out hb);have K7':=Aside0.mk (blk_below K7.out hb);have HO6:=Aside0.mk (Kd.R_below HO.out hb);have HU6:=Aside0.mk (Kd.R_below HU.out hb);have K9:=Aside0.mk hbox;have G9:=Aside0.mk (show w.heap.size ≤ g9 by rw [hg9];exact below_size BW.out);have N94:=Aside0.mk (show g9 ≠ g4 by rw [hg9];exact Nat.ne_of_gt (blk_lt K4.out));have N97:=Aside0.mk (show g9 ≠ g7 by rw [hg9];exact Nat.ne_of_gt (blk_lt K7.out));clear BW K4 K7 HO HU hb hbox hg9;have hcz0:w7.cell? ⟨g9,0,none⟩ = some (.slice none 0 0):=(blk_cell K9.out 0).trans rfl;have hcz1:w7.cell? ⟨g9,1,none⟩ = some (.slice none 0 0):=(blk_cell K9.out 1).trans rfl;have hcz2:w7.cell? ⟨g9,2,none⟩ = some (.int .i64 0):=(blk_cell K9.out 2).trans rfl;have hfz0:=blk_frozen K9.out 0;have hfz1:=blk_frozen K9.out 1;have hfz2:=blk_frozen K9.out 2)
    clear hcz0 hcz1 hcz2 hfz0 hfz1 hfz2 h0 h1 h2
    have BW:=Aside0.mk (impl_NoticeFor.below3 HB6.out G9.out (.slice A1 (rd_T30 l0 j).f0.length c1) (.slice A2 (rd_T30 l0 j).f1.length c2) (.int .i64 (rd_T30 l0 j).f2))
    have K4:=Aside0.mk (impl_NoticeFor.far3 K4'.out N94.out.symm (.slice A1 (rd_T30 l0 j).f0.length c1) (.slice A2 (rd_T30 l0 j).f1.length c2) (.int .i64 (rd_T30 l0 j).f2))
    have K7:=Aside0.mk (impl_NoticeFor.far3 K7'.out N97.out.symm (.slice A1 (rd_T30 l0 j).f0.length c1) (.slice A2 (rd_T30 l0 j).f1.length c2) (.int .i64 (rd_T30 l0 j).f2))
    have HO:=Aside0.mk (impl_NoticeFor.row3 HO6.out K9.out (by decide) (.slice A1 (rd_T30 l0 j).f0.length c1) (.slice A2 (rd_T30 l0 j).f1.length c2) (.int .i64 (rd_T30 l0 j).f2))
    have HU:=Aside0.mk (impl_NoticeFor.row3 HU6.out K9.out (by decide) (.slice A1 (rd_T30 l0 j).f0.length c1) (.slice A2 (rd_T30 l0 j).f1.length c2) (.int .i64 (rd_T30 l0 j).f2))
    have K9':=Aside0.mk (impl_NoticeFor.put3 K9.out (.slice A1 (rd_T30 l0 j).f0.length c1) (.slice A2 (rd_T30 l0 j).f1.length c2) (.int .i64 (rd_T30 l0 j).f2))
    clear HB6 K4' K7' HO6 HU6 K9
    generalize (((w7.setCell ⟨g9,0,none⟩ (.slice A1 (rd_T30 l0 j).f0.length c1)).setCell ⟨g9,1,none⟩ (.slice A2 (rd_T30 l0 j).f1.length c2)).setCell ⟨g9,2,none⟩ (.int .i64 (rd_T30 l0 j).f2)) = w8 at BW K4 K7 HO HU K9' ⊢
    have hcz0:w8.cell? ⟨g9,0,none⟩ = some (.slice A1 (rd_T30 l0 j).f0.length c1):=(blk_cell K9'.out 0).trans rfl
    have hcz1:w8.cell? ⟨g9,1,none⟩ = some (.slice A2 (rd_T30 l0 j).f1.length c2):=(blk_cell K9'.out 1).trans rfl
    have hcz2:w8.cell? ⟨g9,2,none⟩ = some (.int .i64 (rd_T30 l0 j).f2):=(blk_cell K9'.out 2).trans rfl
    go_region_with (first|(go_at_call 31;refine (impl_NoticeFor.maker (⟨#[42]⟩:ByteArray) _).mono ?_;rintro e w9 ⟨B2,rfl,hBg,hBk,hb⟩;have KB2:=Aside0.mk hBk;have HD1:=Aside0.mk hb;have BW9:=Aside0.mk (below_step (below_drew1 BW.out) hb);have hd0:w9.cell? ⟨g9,0,none⟩ = some (.slice A1 (rd_T30 l0 j).f0.length c1):=(blk_cell (blk_below (blk_drew K9'.out) hb) 0).trans rfl;have hd1:w9.cell? ⟨g9,1,none⟩ = some (.slice A2 (rd_T30 l0 j).f1.length c2):=(blk_cell (blk_below (blk_drew K9'.out) hb) 1).trans rfl;have hd2:w9.cell? ⟨g9,2,none⟩ = some (.int .i64 (rd_T30 l0 j).f2):=(blk_cell (blk_below (blk_drew K9'.out) hb) 2).trans rfl;clear hBg hBk hb)|(go_at_call 32;refine (impl_NoticeFor.asks (⟨#[42]⟩:ByteArray) B2 (rd_T30 l0 j) A1 A2 c1 c2 w9 KB2.out (Kd.C_below HC1.out BW9.out) HL1.out).mono ?_;rintro e w10 ⟨rfl,hb2⟩;have HD2:=Aside0.mk (below_step HD1.out hb2);clear hb2))
    all_goals (
     have BW':=Aside0.mk (below_step (below_drew1 BW.out) HD2.out)
     have HO':=Aside0.mk (Kd.R_below (Kd.R_drew HO.out) HD2.out)
     have HU':=Aside0.mk (Kd.R_below (Kd.R_drew HU.out) HD2.out)
     have K4':=Aside0.mk (blk_below (blk_drew K4.out) HD2.out)
     have K7':=Aside0.mk (blk_below (blk_drew K7.out) HD2.out)
     have K9:=Aside0.mk (blk_below (blk_drew K9'.out) HD2.out)
     have hG:=HG.out
     rw [List.drop_eq_getElem_cons hlt,show l0[j] = rd_T30 l0 j by unfold rd_T30;rw [Int.toNat_natCast,List.getD_eq_getElem?_getD,List.getElem?_eq_getElem hlt];rfl] at hG
     simp only [impl_NoticeFor.go] at hG
     clear BW HO HU K4 K7 K9' hcz0 hcz1 hcz2 hd0 hd1 hd2 HD1 HD2 KB2 BW9 HG
     generalize impl_NoticeFor.has (⟨#[42]⟩:ByteArray) (rd_T30 l0 j) = b at hG ⊢
     cases b with
     | false =>
      have HG:=Aside0.mk (show impl_NoticeFor.go (⟨#[42]⟩:ByteArray) (l0.drop (j + 1)) rs m = some (r2,r3) by rw [if_neg Bool.false_ne_true] at hG;exact hG)
      clear hG
      go_wp2
      go_roundg (l0.length - (j + 1))
      case measure=>omega
      case rel=>exact ⟨j + 1,rs,m,u,by omega,by omega,by go_num,HG,HO',HU',K4',K7',BW'⟩
     | true =>
      rw [if_pos rfl] at hG
      by_cases hlim:rs.length + (rd_T30 l0 j).f1.length < 5864062014805
      rotate_left
      ·rw [if_neg hlim] at hG;cases hG
      rw [if_pos hlim] at hG
      have e0:mx m (rd_T30 l0 j).f2 = if m < (rd_T30 l0 j).f2 then (rd_T30 l0 j).f2 else m:=rfl
      rcases (show m < (rd_T30 l0 j).f2 ∨ m ≥ (rd_T30 l0 j).f2 by omega) with hm|hm
      ·rw [e0,if_pos hm] at hG
       clear e0
       have HG:=Aside0.mk hG
       have LM:=Aside0.mk hlim
       clear hG hlim
       have hc71:w10.cell? ⟨g7,1,none⟩ = some u:=(blk_cell K7'.out 1).trans rfl
       have hc91:w10.cell? ⟨g9,1,none⟩ = some (.slice A2 (rd_T30 l0 j).f1.length c2):=(blk_cell K9.out 1).trans rfl
       go_wp2_with ((with_reducible refine gate_builtin (b:=.append) (xs:=#[.tmp 32, .tmp 34]) rfl ?_);at_builtin;refine Kd.R_append_rows k57 (w0:=w) w.heap.size rfl (.tmp 32) (.tmp 34) 28 57 (.agg #[(.bool false),(.string ⟨#[]⟩)]) 24 rfl Try.underlying28 info57 rfl (by decide) (by omega) u rs ((rd_T30 l0 j).f1) _ _ _ (fun _=>True) (fun _=>False) rfl rfl ?aO ?aR (fun _ _ h=>h) (fun _ h=>h.elim) ?aF ?aB ?aS ?aL ?_;(case aR=>exact Kd.C_below HC2.out BW'.out);(case aB=>exact BW'.out);(case aF=>exact (fun _ _=>trivial));(case aO=>exact HU'.out);(case aS=>exact below_size BW'.out);(case aL=>have:=LM.out;omega);intro v11 w11 ho hb hg hat;have HO2:=Aside0.mk (Kd.R_over' HO'.out (Kd.R_typed HU'.out) (by decide) hg);have K42:=Aside0.mk (blk_grown (g:=g4) (o:=.cells #[.slice none 0 0, .slice none 0 0, .int .i64 0] 30 (0,0)) K4'.out hg (Kd.R_ne HU'.out K4'.out (by decide)));have K72:=Aside0.mk (blk_grown (g:=g7) (o:=.cells #[.slice Ao [a1].length co,u, .int .i64 m] 30 (0,0)) K7'.out hg (Kd.R_ne HU'.out K7'.out (by decide)));have K92:=Aside0.mk (blk_grown (g:=g9) (o:=.cells #[.slice A1 (rd_T30 l0 j).f0.length c1, .slice A2 (rd_T30 l0 j).f1.length c2, .int .i64 (rd_T30 l0 j).f2] 30 (0,0)) K9.out hg (Kd.R_ne HU'.out K9.out (by decide)));have BW2:=Aside0.mk hb;have HU2:=Aside0.mk ho;clear HO' K4' K7' K9 BW' HU' ho hb hg hat hc71 hc91;obtain ⟨Au,cu,eu⟩:=Kd.R_slice HU2.out;subst eu;have hc71:w11.cell? ⟨g7,1,none⟩ = some u:=(blk_cell K72.out 1).trans rfl;have hf71:=blk_frozen K72.out 1;have hc72:w11.cell? ⟨g7,2,none⟩ = some (.int .i64 m):=(blk_cell K72.out 2).trans rfl;have hf72:=blk_frozen K72.out 2;have hc92:w11.cell? ⟨g9,2,none⟩ = some (.int .i64 (rd_T30 l0 j).f2):=(blk_cell K92.out 2).trans rfl;have hn97:=N97.out;have hn79:=N97.out.symm)
       have HU3:=Aside0.mk (show Kd.R k57 57 w11 w.heap.size (fun _=>True) (.slice Au (rs.length + (rd_T30 l0 j).f1.length) cu) (rs ++ (rd_T30 l0 j).f1) by rw [← List.length_append];exact HU2.out)
       clear HU2
       go_roundg (l0.length - (j + 1))
       case measure=>omega
       case rel=>exact ⟨j + 1,rs ++ (rd_T30 l0 j).f1,_, .slice Au (rs.length + (rd_T30 l0 j).f1.length) cu,by omega,by omega,by go_num,HG,⟨Kd.R_mono (Kd.R_far (p:=⟨g7,2,none⟩) (Kd.R_far (p:=⟨g7,1,none⟩) (Kd.R_types HO2.out K72.out (by decide)) (fun _ hk=>hk.2) _) (fun _ hk=>hk.2) _) (fun _ h_=>h_.1)⟩,⟨Kd.R_mono (Kd.R_far (p:=⟨g7,2,none⟩) (Kd.R_far (p:=⟨g7,1,none⟩) (Kd.R_types HU3.out K72.out (by decide)) (fun _ hk=>hk.2) _) (fun _ hk=>hk.2) _) (fun _ h_=>h_.1)⟩,⟨blk_far (blk_far K42.out N74.out.symm _) N74.out.symm _⟩,⟨blk_put (blk_put K72.out 1 _ rfl) 2 _ rfl⟩,⟨below_set (below_set BW2.out G7.out) G7.out⟩⟩
      ·rw [e0,if_neg (by omega)] at hG
       clear e0
       have HG:=Aside0.mk hG
       have LM:=Aside0.mk hlim
       clear hG hlim
       have hc71:w10.cell? ⟨g7,1,none⟩ = some u:=(blk_cell K7'.out 1).trans rfl
       have hc91:w10.cell? ⟨g9,1,none⟩ = some (.slice A2 (rd_T30 l0 j).f1.length c2):=(blk_cell K9.out 1).trans rfl
       go_wp2_with ((with_reducible refine gate_builtin (b:=.append) (xs:=#[.tmp 32, .tmp 34]) rfl ?_);at_builtin;refine Kd.R_append_rows k57 (w0:=w) w.heap.size rfl (.tmp 32) (.tmp 34) 28 57 (.agg #[(.bool false),(.string ⟨#[]⟩)]) 24 rfl Try.underlying28 info57 rfl (by decide) (by omega) u rs ((rd_T30 l0 j).f1) _ _ _ (fun _=>True) (fun _=>False) rfl rfl ?aO ?aR (fun _ _ h=>h) (fun _ h=>h.elim) ?aF ?aB ?aS ?aL ?_;(case aR=>exact Kd.C_below HC2.out BW'.out);(case aB=>exact BW'.out);(case aF=>exact (fun _ _=>trivial));(case aO=>exact HU'.out);(case aS=>exact below_size BW'.out);(case aL=>have:=LM.out;omega);intro v11 w11 ho hb hg hat;have HO2:=Aside0.mk (Kd.R_over' HO'.out (Kd.R_typed HU'.out) (by decide) hg);have K42:=Aside0.mk (blk_grown (g:=g4) (o:=.cells #[.slice none 0 0, .slice none 0 0, .int .i64 0] 30 (0,0)) K4'.out hg (Kd.R_ne HU'.out K4'.out (by decide)));have K72:=Aside0.mk (blk_grown (g:=g7) (o:=.cells #[.slice Ao [a1].length co,u, .int .i64 m] 30 (0,0)) K7'.out hg (Kd.R_ne HU'.out K7'.out (by decide)));have K92:=Aside0.mk (blk_grown (g:=g9) (o:=.cells #[.slice A1 (rd_T30 l0 j).f0.length c1, .slice A2 (rd_T30 l0 j).f1.length c2, .int .i64 (rd_T30 l0 j).f2] 30 (0,0)) K9.out hg (Kd.R_ne HU'.out K9.out (by decide)));have BW2:=Aside0.mk hb;have HU2:=Aside0.mk ho;clear HO' K4' K7' K9 BW' HU' ho hb hg hat hc71 hc91;obtain ⟨Au,cu,eu⟩:=Kd.R_slice HU2.out;subst eu;have hc71:w11.cell? ⟨g7,1,none⟩ = some u:=(blk_cell K72.out 1).trans rfl;have hf71:=blk_frozen K72.out 1;have hc72:w11.cell? ⟨g7,2,none⟩ = some (.int .i64 m):=(blk_cell K72.out 2).trans rfl;have hf72:=blk_frozen K72.out 2;have hc92:w11.cell? ⟨g9,2,none⟩ = some (.int .i64 (rd_T30 l0 j).f2):=(blk_cell K92.out 2).trans rfl;have hn97:=N97.out;have hn79:=N97.out.symm)
       have HU3:=Aside0.mk (show Kd.R k57 57 w11 w.heap.size (fun _=>True) (.slice Au (rs.length + (rd_T30 l0 j).f1.length) cu) (rs ++ (rd_T30 l0 j).f1) by rw [← List.length_append];exact HU2.out)
       clear HU2
       go_roundg (l0.length - (j + 1))
       case measure=>omega
       case rel=>exact ⟨j + 1,rs ++ (rd_T30 l0 j).f1,_, .slice Au (rs.length + (rd_T30 l0 j).f1.length) cu,by omega,by omega,by go_num,HG,⟨Kd.R_mono (Kd.R_far (p:=⟨g7,2,none⟩) (Kd.R_far (p:=⟨g7,1,none⟩) (Kd.R_types HO2.out K72.out (by decide)) (fun _ hk=>hk.2) _) (fun _ hk=>hk.2) _) (fun _ h_=>h_.1)⟩,⟨Kd.R_mono (Kd.R_far (p:=⟨g7,2,none⟩) (Kd.R_far (p:=⟨g7,1,none⟩) (Kd.R_types HU3.out K72.out (by decide)) (fun _ hk=>hk.2) _) (fun _ hk=>hk.2) _) (fun _ h_=>h_.1)⟩,⟨blk_far (blk_far K42.out N74.out.symm _) N74.out.symm _⟩,⟨blk_put (blk_put K72.out 1 _ rfl) 2 _ rfl⟩,⟨below_set (below_set BW2.out G7.out) G7.out⟩⟩)
   ·have hltz:¬ (j:Int) < (l0.length:Int):=by omega
    obtain rfl:j = l0.length:=by omega
    have hG:=HG.out
    rw [List.drop_length] at hG
    simp only [impl_NoticeFor.go,Option.some.injEq,Prod.mk.injEq] at hG
    obtain ⟨rfl,rfl⟩:=hG
    clear HG
    obtain ⟨Au,cu,eu⟩:=Kd.R_slice HU.out
    subst eu
    have hc70:wr.cell? ⟨g7,0,none⟩ = some (.slice Ao [a1].length co):=(blk_cell K7.out 0).trans rfl
    have hc71:wr.cell? ⟨g7,1,none⟩ = some (.slice Au rs.length cu):=(blk_cell K7.out 1).trans rfl
    have hc72:wr.cell? ⟨g7,2,none⟩ = some (.int .i64 m):=(blk_cell K7.out 2).trans rfl
    have hc40:wr.cell? ⟨g4,0,none⟩ = some (.slice none 0 0):=(blk_cell K4.out 0).trans rfl
    have hc41:wr.cell? ⟨g4,1,none⟩ = some (.slice none 0 0):=(blk_cell K4.out 1).trans rfl
    have hc42:wr.cell? ⟨g4,2,none⟩ = some (.int .i64 0):=(blk_cell K4.out 2).trans rfl
    have hf40:=blk_frozen K4.out 0
    have hf41:=blk_frozen K4.out 1
    have hf42:=blk_frozen K4.out 2
    have hn74:=N74.out
    have hn47:=N74.out.symm
    go_wp2
    refine bodyPost_ret (results_cell_row rfl _ _ g4 30 #[.slice Ao [a1].length co, .slice Au rs.length cu, .int .i64 m] (0,0) _ rfl (impl_NoticeFor.put3 K4.out _ _ _) Try.underlying30 rfl (by kernel_rfl)) rfl ?_
    exact ⟨_,_,rfl,impl_NoticeFor.row3 HO.out K4.out (by decide) _ _ _,impl_NoticeFor.row3 HU.out K4.out (by decide) _ _ _,impl_NoticeFor.below3 BW.out G4.out _ _ _⟩

/-! ### spec_l2Of: function 35 -/
mutual
def spec_l2Of.l0:Nat → List (S30) → ByteArray → Bool → Int → List ByteArray → List (S57) → Int → Option (List ByteArray × (List (S57)) × Int × Bool)
 | 0,_,_,_,_,_,_,_=>none
 | k + 1,x0,x1,x7,x8,x111000,x111001,x111002=>if x8 < (x0.length:Int) then (spec_l2Of.l1 k x0 x1 x7 x8 false 0 x111000 x111001 x111002) else (some (x111000,x111001,x111002,x7))
def spec_l2Of.l1:Nat → List (S30) → ByteArray → Bool → Int → Bool → Int → List ByteArray → List (S57) → Int → Option (List ByteArray × (List (S57)) × Int × Bool)
 | 0,_,_,_,_,_,_,_,_,_=>none
 | k + 1,x0,x1,x7,x8,x9,x10,x111000,x111001,x111002=>if 0 ≤ x8 then (if x8 < (x0.length:Int) then (if x10 < (((rd_T30 x0 x8).f0).length:Int) then (if x9 = true then (spec_l2Of.l1 k x0 x1 x7 x8 true (wrap64 (x10 + 1)) x111000 x111001 x111002) else (if 0 ≤ x10 then (spec_l2Of.l1 k x0 x1 x7 x8 ((rdOf ByteArray.empty ((rd_T30 x0 x8).f0) x10).toList == x1.toList) (wrap64 (x10 + 1)) x111000 x111001 x111002) else (none))) else (if x9 = true then (if x111001.length + ((rd_T30 x0 x8).f1).length < 5864062014805 then (spec_l2Of.l0 k x0 x1 true (wrap64 (x8 + 1)) x111000 (x111001 ++ ((rd_T30 x0 x8).f1)) (mx x111002 ((rd_T30 x0 x8).f2))) else (none)) else (spec_l2Of.l0 k x0 x1 x7 (wrap64 (x8 + 1)) x111000 x111001 x111002))) else (none)) else (none)
end
def spec_l2Of.f (k:Nat) (l0:List (S30)) (a1:ByteArray):Option (List ByteArray × (List (S57)) × Int × Bool):=spec_l2Of.l0 k l0 a1 false 0 (([a1]:List ByteArray)) (([]:List (S57))) 0
theorem spec_l2Of.mono_l:∀ k,(∀ y0 y1 y2 y3 y4 y5 y6,LeO (spec_l2Of.l0 k y0 y1 y2 y3 y4 y5 y6) (spec_l2Of.l0 (k + 1) y0 y1 y2 y3 y4 y5 y6)) ∧ (∀ y0 y1 y2 y3 y4 y5 y6 y7 y8,LeO (spec_l2Of.l1 k y0 y1 y2 y3 y4 y5 y6 y7 y8) (spec_l2Of.l1 (k + 1) y0 y1 y2 y3 y4 y5 y6 y7 y8))
 | 0=>⟨fun _ _ _ _ _ _ _ r h=>by simp [spec_l2Of.l0] at h,fun _ _ _ _ _ _ _ _ _ r h=>by simp [spec_l2Of.l1] at h⟩
 | k + 1=>by
  obtain ⟨ih0,ih1⟩:=spec_l2Of.mono_l k
  refine ⟨?_,?_⟩
  ·intro y0 y1 y2 y3 y4 y5 y6
   unfold spec_l2Of.l0
   repeat' first
   | (with_reducible exact ih0 _ _ _ _ _ _ _)
   | (with_reducible exact ih1 _ _ _ _ _ _ _ _ _)
   | (with_reducible exact LeO.refl _)
   | (with_reducible exact LeO.none _)
   | (with_reducible refine LeO.ite ?_ ?_)
   | (with_reducible refine LeO.bind ?_ (fun _=>?_))
   | exact ih0 _ _ _ _ _ _ _
   | exact ih1 _ _ _ _ _ _ _ _ _
   | exact LeO.none _
   | refine LeO.ite ?_ ?_
   | refine LeO.bind ?_ (fun _=>?_)
  ·intro y0 y1 y2 y3 y4 y5 y6 y7 y8
   unfold spec_l2Of.l1
   repeat' first
   | (with_reducible exact ih0 _ _ _ _ _ _ _)
   | (with_reducible exact ih1 _ _ _ _ _ _ _ _ _)
   | (with_reducible exact LeO.refl _)
   | (with_reducible exact LeO.none _)
   | (with_reducible refine LeO.ite ?_ ?_)
   | (with_reducible refine LeO.bind ?_ (fun _=>?_))
   | exact ih0 _ _ _ _ _ _ _
   | exact ih1 _ _ _ _ _ _ _ _ _
   | exact LeO.none _
   | refine LeO.ite ?_ ?_
   | refine LeO.bind ?_ (fun _=>?_)
theorem spec_l2Of.mono:∀ a0 a1 k,LeO (spec_l2Of.f k a0 a1) (spec_l2Of.f (k + 1) a0 a1):=by
 intro a0 a1 k
 obtain ⟨ih0,ih1⟩:=spec_l2Of.mono_l k
 unfold spec_l2Of.f
 repeat' first
   | (with_reducible exact ih0 _ _ _ _ _ _ _)
   | (with_reducible exact ih1 _ _ _ _ _ _ _ _ _)
   | (with_reducible exact LeO.refl _)
   | (with_reducible exact LeO.none _)
   | (with_reducible refine LeO.ite ?_ ?_)
   | (with_reducible refine LeO.bind ?_ (fun _=>?_))
   | exact ih0 _ _ _ _ _ _ _
   | exact ih1 _ _ _ _ _ _ _ _ _
   | exact LeO.none _
   | refine LeO.ite ?_ ?_
   | refine LeO.bind ?_ (fun _=>?_)
def spec_l2Of.T13:Bool × List (List Nat × List Nat):=(true,[([],[]),([0],[0]),([],[]),([],[]),([2,3],[2,3]),([4],[4]),([5],[5]),([1,6],[1,6]),([0,1,2,3,4,5,6,7],[]),([8,7,7,0,1,2,3,4,5,6,7],[7,8])])
def spec_l2Of.B13:List Nat:=[0,1,0,0,12,28,60,127,255,511]
theorem spec_l2Of.tab13:rtab .any (opsOf Try.f35 13) = spec_l2Of.T13:=by kernel_rfl
theorem spec_l2Of.bits13:waitsOk spec_l2Of.T13.2 spec_l2Of.B13 = true:=by kernel_rfl
def spec_l2Of.T14:Bool × List (List Nat × List Nat):=(true,[([],[]),([0],[0]),([],[]),([],[]),([2,3],[2,3]),([4],[4]),([5],[5]),([1,6],[1,6]),([0,1,2,3,4,5,6,7],[]),([8,7,0,1,2,3,4,5,6,7],[7,8])])
def spec_l2Of.B14:List Nat:=[0,1,0,0,12,28,60,127,255,511]
theorem spec_l2Of.tab14:rtab .any (opsOf Try.f35 14) = spec_l2Of.T14:=by kernel_rfl
theorem spec_l2Of.bits14:waitsOk spec_l2Of.T14.2 spec_l2Of.B14 = true:=by kernel_rfl
theorem spec_l2Of.calls (k:Nat) (A0:Option Addr) (c0:Nat) (l0:List (S30)) (a1:ByteArray) (r1:List ByteArray) (r2:List (S57)) (r3:Int) (r4:Bool) (w:World) (hr0:Kd.C k30 w A0 l0.length l0) (hc0:l0.length ≤ c0) (h:spec_l2Of.f k l0 a1 = some (r1,r2,r3,r4)) :
  Calls Try.prog 35 #[.slice A0 l0.length c0, .string a1] w fun e w'=>∃ v0_ v1_:Value,e = .returned (.tuple #[.agg #[v0_,v1_, .int .i64 r3], .bool r4]) ∧ Kd.R Kd.string 9 w' w.heap.size (fun _=>True) v0_ r1 ∧ Kd.R k57 57 w' w.heap.size (fun _=>True) v1_ r2 ∧ Below w.heap.size w w':=by
 have hu30:=Try.underlying30
 have HR0:=Aside0.mk hr0
 have HC0:=Aside0.mk hc0
 clear hr0 hc0
 have HB:=Aside0.mk (Below.refl w.heap.size w)
 have H:(spec_l2Of.l0 k l0 a1 false 0 (([a1]:List ByteArray)) (([]:List (S57))) 0) = some (r1,r2,r3,r4):=h
 clear h
 obtain ⟨y104,hy104⟩:∃ y_:List ByteArray,y_ = (([a1]:List ByteArray)):=⟨_,rfl⟩
 replace H:(spec_l2Of.l0 k l0 a1 false 0 y104 (([]:List (S57))) 0) = some (r1,r2,r3,r4):=by first|(rw [hy104];with_reducible exact H)|(have H2_:=(Option.bind_some _ _).symm.trans H;rw [hy104];with_reducible exact H2_)|(have H2_:=(Option.bind_some _ _).symm.trans H;with_reducible exact H2_)|with_reducible exact H|(rw [hy104];exact H)|exact H
 have Ny104:=Aside0.mk hy104
 clear hy104
 obtain ⟨y107,hy107⟩:∃ y_:List (S57),y_ = (([]:List (S57))):=⟨_,rfl⟩
 replace H:(spec_l2Of.l0 k l0 a1 false 0 y104 y107 0) = some (r1,r2,r3,r4):=by first|(rw [hy107];with_reducible exact H)|(have H2_:=(Option.bind_some _ _).symm.trans H;rw [hy107];with_reducible exact H2_)|(have H2_:=(Option.bind_some _ _).symm.trans H;with_reducible exact H2_)|with_reducible exact H|(rw [hy107];exact H)|exact H
 have Ny107:=Aside0.mk hy107
 clear hy107
 have H':=Aside0.mk H
 clear H
 go_enter Try.func35,Try.ntmps35
 go_wp2_with (first|((with_reducible refine gate_dst (N:=4) rfl ?_);refine box_event ?hg (N:=4) ?hd (cs:=#[.slice none 0 0, .slice none 0 0, .int .i64 0]) (t:=30) ?hr ?_;(case hd=>rfl);(case hg=>rfl);(case hr=>first|(go_simp;done)|(go_simp;rfl));intro gb103 hg w3 hbox hb;have n0_:=Aside0.mk (below_step (by repeat (first|(with_reducible first|exact HB.out|apply below_alloc|apply pw_below_drewN|apply below_drew1)|exact HB.out)) hb);have n1_:=Aside0.mk (hbox);have n2_:=Aside0.mk ((by rw [hg];exact (below_size (by repeat (first|(with_reducible first|exact HB.out|apply below_alloc|apply pw_below_drewN|apply below_drew1)|exact HB.out))):w.heap.size ≤ gb103));have n3_:=n2_;clear HB;have HB:=n0_;have BK103:=n1_;have GW103:=n2_;have GE103:=n3_;clear n0_ n1_ n2_ n3_;clear hb hbox hg)|((with_reducible refine gate_dst (N:=12) rfl ?_);refine Kd.R_lit Kd.string _ 9 ?hg (N:=12) ?hd (xs:=([a1]:List ByteArray)) (inner:=[.string a1]) (ok:=fun _=>True) (okp:=fun _=>True) ?hr ?hp (fun _ hk=>hk) trivial (Below.refl _ _) (Nat.le_refl _) (by simp) ?_;(case hd=>rfl);(case hg=>rfl);(case hr=>first|(go_simp;done)|(go_simp;rfl));(case hp=>exact (Reps.one (show Kd.M Kd.string _ _ _ a1 [.string a1] from rfl) (Reps.none _ _)));intro v105 w4 ho5 hb hg_ hnew_;clear hg_ hnew_;(first|rw [← Ny104.out] at ho5|(simp only [Int.reduceToNat] at ho5;rw [← Ny104.out] at ho5));have n0_:=Aside0.mk (Kd.R_lower ho5 (below_size (by repeat (first|(with_reducible first|exact HB.out|apply below_alloc|apply pw_below_drewN|apply below_drew1|refine below_set ?_ GE103.out)|exact HB.out))));have n1_:=Aside0.mk (blk_below (g:=gb103) (o:=.cells #[.slice none 0 0, .slice none 0 0, .int .i64 0] 30 (0,0)) (by (with_reducible repeat (first|refine blk_drewN ?_ _|refine blk_drew ?_|refine blk_alloc ?_ _));exact BK103.out) hb);have n2_:=Aside0.mk (below_step (by repeat (first|(with_reducible first|exact HB.out|apply below_alloc|apply pw_below_drewN|apply below_drew1|refine below_set ?_ GE103.out)|exact HB.out)) hb);clear BK103;clear HB;have HO106:=n0_;have BK103:=n1_;have HB:=n2_;clear n0_ n1_ n2_;clear hb ho5)|((with_reducible refine gate_dst (N:=13) rfl ?_);refine Kd.R_lit k57 _ 57 ?hg (N:=13) ?hd (xs:=([]:List (S57))) (inner:=[]) (ok:=fun _=>True) (okp:=fun _=>True) ?hr ?hp (fun _ hk=>hk) trivial (Below.refl _ _) (Nat.le_refl _) (by simp) ?_;(case hd=>rfl);(case hg=>rfl);(case hr=>first|(go_simp;done)|(go_simp;rfl));(case hp=>exact (Reps.none _ _));intro v108 w6 ho7 hb hg_ hnew_;clear hg_ hnew_;(first|rw [← Ny107.out] at ho7|(simp only [Int.reduceToNat] at ho7;rw [← Ny107.out] at ho7));have n0_:=Aside0.mk (Kd.R_below (by (with_reducible repeat (first|apply Kd.R_alloc|apply Kd.R_drewN|apply Kd.R_drew));exact HO106.out) hb);have n1_:=Aside0.mk (Kd.R_lower ho7 (below_size (by repeat (first|(with_reducible first|exact HB.out|apply below_alloc|apply pw_below_drewN|apply below_drew1|refine below_set ?_ GE103.out)|exact HB.out))));have n2_:=Aside0.mk (blk_below (g:=gb103) (o:=.cells #[.slice none 0 0, .slice none 0 0, .int .i64 0] 30 (0,0)) (by (with_reducible repeat (first|refine blk_drewN ?_ _|refine blk_drew ?_|refine blk_alloc ?_ _));exact BK103.out) hb);have n3_:=Aside0.mk (below_step (by repeat (first|(with_reducible first|exact HB.out|apply below_alloc|apply pw_below_drewN|apply below_drew1|refine below_set ?_ GE103.out)|exact HB.out)) hb);clear HO106;clear BK103;clear HB;have HO106:=n0_;have HO109:=n1_;have BK103:=n2_;have HB:=n3_;clear n0_ n1_ n2_ n3_;clear hb ho7;obtain ⟨Ao8,co8,eo8⟩:=Kd.R_slice HO109.out;subst eo8;obtain ⟨Ao9,co9,eo9⟩:=Kd.R_slice HO106.out;subst eo9)|((with_reducible refine gate_dst (N:=6) rfl ?_);refine box_event ?hg (N:=6) ?hd (cs:=#[.slice none 0 0, .slice none 0 0, .int .i64 0]) (t:=30) ?hr ?_;(case hd=>rfl);(case hg=>rfl);(case hr=>first|(go_simp;done)|(go_simp;rfl));intro gb110 hg w10 hbox hb;have n0_:=Aside0.mk (Kd.R_below (by (with_reducible repeat (first|apply Kd.R_alloc|apply Kd.R_drewN|apply Kd.R_drew));exact HO106.out) hb);have n1_:=Aside0.mk (Kd.R_below (by (with_reducible repeat (first|apply Kd.R_alloc|apply Kd.R_drewN|apply Kd.R_drew));exact HO109.out) hb);have n2_:=Aside0.mk (blk_below (g:=gb103) (o:=.cells #[.slice none 0 0, .slice none 0 0, .int .i64 0] 30 (0,0)) (by (with_reducible repeat (first|refine blk_drewN ?_ _|refine blk_drew ?_|refine blk_alloc ?_ _));exact BK103.out) hb);have n3_:=Aside0.mk (below_step (by repeat (first|(with_reducible first|exact HB.out|apply below_alloc|apply pw_below_drewN|apply below_drew1|refine below_set ?_ GE103.out)|exact HB.out)) hb);have n4_:=Aside0.mk (hbox);have n5_:=Aside0.mk ((by rw [hg];exact (below_size (by repeat (first|(with_reducible first|exact HB.out|apply below_alloc|apply pw_below_drewN|apply below_drew1|refine below_set ?_ GE103.out)|exact HB.out))):w.heap.size ≤ gb110));have n6_:=n5_;have n7_:=Aside0.mk ((by rw [hg];exact Nat.ne_of_lt (blk_lt (g:=gb103) (o:=.cells #[.slice none 0 0, .slice none 0 0, .int .i64 0] 30 (0,0)) (by (with_reducible repeat (first|refine blk_drewN ?_ _|refine blk_drew ?_|refine blk_alloc ?_ _));exact BK103.out)):gb103 ≠ gb110));have n8_:=Aside0.mk ((by rw [hg];exact Nat.ne_of_gt (blk_lt (g:=gb103) (o:=.cells #[.slice none 0 0, .slice none 0 0, .int .i64 0] 30 (0,0)) (by (with_reducible repeat (first|refine blk_drewN ?_ _|refine blk_drew ?_|refine blk_alloc ?_ _));exact BK103.out)):gb110 ≠ gb103));clear HO106;clear HO109;clear BK103;clear HB;have HO106:=n0_;have HO109:=n1_;have BK103:=n2_;have HB:=n3_;have BK110:=n4_;have GW110:=n5_;have GE110:=n6_;have NB103_110:=n7_;have NB110_103:=n8_;clear n0_ n1_ n2_ n3_ n4_ n5_ n6_ n7_ n8_;clear hb hbox hg;have hnb11:=NB110_103.out;have hnc11:=NB103_110.out;have hcz12_0:w10.cell? ⟨gb110,0,none⟩ = some (.slice none 0 0):=(blk_cell BK110.out 0).trans rfl;have hcz12_1:w10.cell? ⟨gb110,1,none⟩ = some (.slice none 0 0):=(blk_cell BK110.out 1).trans rfl;have hcz12_2:w10.cell? ⟨gb110,2,none⟩ = some (.int .i64 0):=(blk_cell BK110.out 2).trans rfl;have hfz12_0:=blk_frozen BK110.out 0;have hfz12_1:=blk_frozen BK110.out 1;have hfz12_2:=blk_frozen BK110.out 2))
 go_loopg [7,8] k (fun kq v7 v8 w'=>∃ (x7_1:Bool) (x8_1:Int) (x111001_1:List (S57)) (x111002_1:Int) (u111001:Value),v7 = .bool x7_1 ∧ v8 = .int .i64 x8_1 ∧ Aside0 (spec_l2Of.l0 kq l0 a1 x7_1 x8_1 y104 x111001_1 x111002_1 = some (r1,r2,r3,r4)) ∧ Aside0 (kq ≤ k) ∧ Aside0 (Kd.R Kd.string 9 w' w.heap.size (fun _=>True) (.slice Ao9 y104.length co9) y104) ∧ Aside0 (Kd.R k57 57 w' w.heap.size (fun _=>True) u111001 x111001_1) ∧ Aside0 (w'.heap[gb103]? = some (.cells #[(.slice none 0 0),(.slice none 0 0), .int .i64 0] 30 (0,0))) ∧ Aside0 (w'.heap[gb110]? = some (.cells #[(.slice Ao9 y104.length co9),u111001, .int .i64 x111002_1] 30 (0,0))) ∧ Aside0 (Below w.heap.size w w'))
 case atStart=>exact ⟨(false),(0),(y107),(0),(.slice Ao8 y107.length co8),(by first|rfl|(simp;done)|(simp only [i64_w,i32_w];done)|(simp only [i64_w,i32_w];rfl)|(simp [*];done)|(simp [emp_bne,emp_beq];done)),(by first|rfl|(simp;done)|(simp only [i64_w,i32_w];done)|(simp only [i64_w,i32_w];rfl)|(simp [*];done)|(simp [emp_bne,emp_beq];done)),H',⟨Nat.le_refl _⟩,⟨by (with_reducible repeat (first|apply Kd.R_alloc|apply Kd.R_drewN|apply Kd.R_drew));exact Kd.R_mono (Kd.R_far (p:=⟨gb110,2,none⟩) (Kd.R_far (p:=⟨gb110,1,none⟩) (Kd.R_far (p:=⟨gb110,0,none⟩) (Kd.R_types HO106.out BK110.out (by decide)) (fun _ hk=>hk.2) (.slice Ao9 y104.length co9)) (fun _ hk=>hk.2) (.slice Ao8 y107.length co8)) (fun _ hk=>hk.2) (.int .i64 0)) (fun _ hk=>trivial)⟩,⟨by (with_reducible repeat (first|apply Kd.R_alloc|apply Kd.R_drewN|apply Kd.R_drew));exact Kd.R_mono (Kd.R_far (p:=⟨gb110,2,none⟩) (Kd.R_far (p:=⟨gb110,1,none⟩) (Kd.R_far (p:=⟨gb110,0,none⟩) (Kd.R_types HO109.out BK110.out (by decide)) (fun _ hk=>hk.2) (.slice Ao9 y104.length co9)) (fun _ hk=>hk.2) (.slice Ao8 y107.length co8)) (fun _ hk=>hk.2) (.int .i64 0)) (fun _ hk=>trivial)⟩,⟨by (with_reducible repeat (first|refine blk_drewN ?_ _|refine blk_drew ?_|refine blk_alloc ?_ _));refine blk_far ?_ NB103_110.out _;(with_reducible repeat (first|refine blk_drewN ?_ _|refine blk_drew ?_|refine blk_alloc ?_ _));refine blk_far ?_ NB103_110.out _;(with_reducible repeat (first|refine blk_drewN ?_ _|refine blk_drew ?_|refine blk_alloc ?_ _));refine blk_far ?_ NB103_110.out _;(with_reducible repeat (first|refine blk_drewN ?_ _|refine blk_drew ?_|refine blk_alloc ?_ _));exact BK103.out⟩,⟨by (with_reducible repeat (first|refine blk_drewN ?_ _|refine blk_drew ?_|refine blk_alloc ?_ _));refine blk_put (cs:=#[.slice Ao9 y104.length co9, .slice Ao8 y107.length co8, .int .i64 0]) ?_ 2 _ rfl;(with_reducible repeat (first|refine blk_drewN ?_ _|refine blk_drew ?_|refine blk_alloc ?_ _));refine blk_put (cs:=#[.slice Ao9 y104.length co9, .slice none 0 0, .int .i64 0]) ?_ 1 _ rfl;(with_reducible repeat (first|refine blk_drewN ?_ _|refine blk_drew ?_|refine blk_alloc ?_ _));refine blk_put (cs:=#[.slice none 0 0, .slice none 0 0, .int .i64 0]) ?_ 0 _ rfl;(with_reducible repeat (first|refine blk_drewN ?_ _|refine blk_drew ?_|refine blk_alloc ?_ _));exact BK110.out⟩,⟨by repeat (first|(with_reducible first|exact HB.out|apply below_alloc|apply pw_below_drewN|apply below_drew1|refine below_set ?_ GE103.out|refine below_set ?_ GE110.out)|exact HB.out)⟩⟩
 case round =>
  clear H'
  try clear c1
  try clear p2
  try clear c3
  try clear c11
  try clear hcz12_0
  try clear hcz12_1
  try clear hcz12_2
  try clear hfz12_0
  try clear hfz12_1
  try clear hfz12_2
  obtain ⟨x7_1,x8_1,x111001_1,x111002_1,u111001,rfl,rfl,HA,HK1,HO_111000,HO_111001,BK103,BK110,HB⟩:=hrel
  cases gk with
  | zero=>exact absurd HA.out (by simp [spec_l2Of.l0])
  | succ k1 =>
   have H:=HA.out
   clear HA
   simp only [spec_l2Of.l0] at H
   by_cases c13:x8_1 < (l0.length:Int)
   ·rw [if_pos c13] at H
    have c13b0:decide (x8_1 < (l0.length:Int)) = true:=decide_eq_true c13
    clear c13
    have H':=Aside0.mk H
    clear H
    go_wp2
    go_loopg [9,10] k1 (fun kq v9 v10 w'=>∃ (x9_2:Bool) (x10_2:Int),v9 = .bool x9_2 ∧ v10 = .int .i64 x10_2 ∧ Aside0 (spec_l2Of.l1 kq l0 a1 x7_1 x8_1 x9_2 x10_2 y104 x111001_1 x111002_1 = some (r1,r2,r3,r4)) ∧ Aside0 (kq ≤ k1) ∧ Aside0 (Kd.R Kd.string 9 w' w.heap.size (fun _=>True) (.slice Ao9 y104.length co9) y104) ∧ Aside0 (Kd.R k57 57 w' w.heap.size (fun _=>True) u111001 x111001_1) ∧ Aside0 (w'.heap[gb103]? = some (.cells #[(.slice none 0 0),(.slice none 0 0), .int .i64 0] 30 (0,0))) ∧ Aside0 (w'.heap[gb110]? = some (.cells #[(.slice Ao9 y104.length co9),u111001, .int .i64 x111002_1] 30 (0,0))) ∧ Aside0 (Below w.heap.size w w'))
    case atStart=>exact ⟨(false),(0),(by first|rfl|(simp;done)|(simp only [i64_w,i32_w];done)|(simp only [i64_w,i32_w];rfl)|(simp [*];done)|(simp [emp_bne,emp_beq];done)),(by first|rfl|(simp;done)|(simp only [i64_w,i32_w];done)|(simp only [i64_w,i32_w];rfl)|(simp [*];done)|(simp [emp_bne,emp_beq];done)),H',⟨Nat.le_refl _⟩,⟨by (with_reducible repeat (first|apply Kd.R_alloc|apply Kd.R_drewN|apply Kd.R_drew));exact HO_111000.out⟩,⟨by (with_reducible repeat (first|apply Kd.R_alloc|apply Kd.R_drewN|apply Kd.R_drew));exact HO_111001.out⟩,⟨by (with_reducible repeat (first|refine blk_drewN ?_ _|refine blk_drew ?_|refine blk_alloc ?_ _));exact BK103.out⟩,⟨by (with_reducible repeat (first|refine blk_drewN ?_ _|refine blk_drew ?_|refine blk_alloc ?_ _));exact BK110.out⟩,⟨by repeat (first|(with_reducible first|exact HB.out|apply below_alloc|apply pw_below_drewN|apply below_drew1|refine below_set ?_ GE103.out|refine below_set ?_ GE110.out)|exact HB.out)⟩⟩
    case round =>
     clear H'
     try clear c1
     try clear p2
     try clear c3
     try clear c11
     try clear c13
     try clear c13b0
     try clear hcz12_0
     try clear hcz12_1
     try clear hcz12_2
     try clear hfz12_0
     try clear hfz12_1
     try clear hfz12_2
     try clear p2
     obtain ⟨x9_2,x10_2,rfl,rfl,HA,HK2,HO_111000,HO_111001,BK103,BK110,HB⟩:=hrel
     cases gk with
     | zero=>exact absurd HA.out (by simp [spec_l2Of.l1])
     | succ k2 =>
      have H:=HA.out
      clear HA
      simp only [spec_l2Of.l1] at H
      by_cases c14:0 ≤ x8_1
      ·rw [if_pos c14] at H
       have c14b0:decide (0 ≤ x8_1) = true:=decide_eq_true c14
       clear c14
       by_cases c15:x8_1 < (l0.length:Int)
       ·rw [if_pos c15] at H
        have c15b0:decide (x8_1 < (l0.length:Int)) = true:=decide_eq_true c15
        clear c15
        by_cases c16:x10_2 < (((rd_T30 l0 x8_1).f0).length:Int)
        ·rw [if_pos c16] at H
         have c16b0:decide (x10_2 < (((rd_T30 l0 x8_1).f0).length:Int)) = true:=decide_eq_true c16
         clear c16
         by_cases c17:x9_2 = true
         ·subst c17
          have H1:(spec_l2Of.l1 k2 l0 a1 x7_1 x8_1 true (wrap64 (x10_2 + 1)) y104 x111001_1 x111002_1) = some (r1,r2,r3,r4):=by rw [if_pos rfl] at H;exact H
          clear H
          have H:=H1
          clear H1
          have H':=Aside0.mk H
          clear H
          have p111:0 ≤ (x8_1:Int):=of_decide_eq_true (by first|(with_reducible assumption)|assumption)
          have q111:x8_1 < (l0.length:Int):=of_decide_eq_true (by first|(with_reducible assumption)|assumption)
          obtain ⟨ad111,A111_0,c111_0,A111_1,c111_1,e111,hx111_0,hx111_1,hx111_2,hl111_0,hi111_0,hl111_1,hi111_1⟩:=at_T30 HR0.out x8_1 p111 q111
          cases e111
          replace hx111_0:=(HB.out.cell (World.block_lt_of_cell? w _ hx111_0)).trans hx111_0
          replace hx111_1:=(HB.out.cell (World.block_lt_of_cell? w _ hx111_1)).trans hx111_1
          replace hx111_2:=(HB.out.cell (World.block_lt_of_cell? w _ hx111_2)).trans hx111_2
          have HR111_0:=Aside0.mk hi111_0
          have HC111_0:=Aside0.mk hl111_0
          clear hi111_0 hl111_0
          have HR111_1:=Aside0.mk hi111_1
          have HC111_1:=Aside0.mk hl111_1
          clear hi111_1 hl111_1
          replace p111:=eq_true p111
          replace q111:=eq_true q111
          go_wp2
          go_roundg k2
          case measure=>have:=HK1.out;have:=HK2.out;omega
          case rel=>exact ⟨(true),(wrap64 (x10_2 + 1)),(by first|rfl|(simp;done)|(simp only [i64_w,i32_w];done)|(simp only [i64_w,i32_w];rfl)|(simp [*];done)|(simp [emp_bne,emp_beq];done)),(by first|rfl|(simp;done)|(simp only [i64_w,i32_w];done)|(simp only [i64_w,i32_w];rfl)|(simp [*];done)|(simp [emp_bne,emp_beq];done)),H',⟨by have:=HK1.out;have:=HK2.out;omega⟩,⟨by (with_reducible repeat (first|apply Kd.R_alloc|apply Kd.R_drewN|apply Kd.R_drew));exact HO_111000.out⟩,⟨by (with_reducible repeat (first|apply Kd.R_alloc|apply Kd.R_drewN|apply Kd.R_drew));exact HO_111001.out⟩,⟨by (with_reducible repeat (first|refine blk_drewN ?_ _|refine blk_drew ?_|refine blk_alloc ?_ _));exact BK103.out⟩,⟨by (with_reducible repeat (first|refine blk_drewN ?_ _|refine blk_drew ?_|refine blk_alloc ?_ _));exact BK110.out⟩,⟨by repeat (first|(with_reducible first|exact HB.out|apply below_alloc|apply pw_below_drewN|apply below_drew1|refine below_set ?_ GE103.out|refine below_set ?_ GE110.out)|exact HB.out)⟩⟩
         ·replace c17:=Bool.eq_false_iff.mpr c17
          subst c17
          have H1:(if 0 ≤ x10_2 then (spec_l2Of.l1 k2 l0 a1 x7_1 x8_1 ((rdOf ByteArray.empty ((rd_T30 l0 x8_1).f0) x10_2).toList == a1.toList) (wrap64 (x10_2 + 1)) y104 x111001_1 x111002_1) else (none)) = some (r1,r2,r3,r4):=by rw [if_neg (show ¬ (false = true) by decide)] at H;exact H
          clear H
          have H:=H1
          clear H1
          by_cases c18:0 ≤ x10_2
          ·rw [if_pos c18] at H
           have c18b0:decide (0 ≤ x10_2) = true:=decide_eq_true c18
           clear c18
           have H':=Aside0.mk H
           clear H
           have p111:0 ≤ (x8_1:Int):=of_decide_eq_true (by first|(with_reducible assumption)|assumption)
           have q111:x8_1 < (l0.length:Int):=of_decide_eq_true (by first|(with_reducible assumption)|assumption)
           obtain ⟨ad111,A111_0,c111_0,A111_1,c111_1,e111,hx111_0,hx111_1,hx111_2,hl111_0,hi111_0,hl111_1,hi111_1⟩:=at_T30 HR0.out x8_1 p111 q111
           cases e111
           replace hx111_0:=(HB.out.cell (World.block_lt_of_cell? w _ hx111_0)).trans hx111_0
           replace hx111_1:=(HB.out.cell (World.block_lt_of_cell? w _ hx111_1)).trans hx111_1
           replace hx111_2:=(HB.out.cell (World.block_lt_of_cell? w _ hx111_2)).trans hx111_2
           have HR111_0:=Aside0.mk hi111_0
           have HC111_0:=Aside0.mk hl111_0
           clear hi111_0 hl111_0
           have HR111_1:=Aside0.mk hi111_1
           have HC111_1:=Aside0.mk hl111_1
           clear hi111_1 hl111_1
           replace p111:=eq_true p111
           replace q111:=eq_true q111
           have p112:0 ≤ (x8_1:Int):=of_decide_eq_true (by first|(with_reducible assumption)|assumption)
           have q112:x8_1 < (l0.length:Int):=of_decide_eq_true (by first|(with_reducible assumption)|assumption)
           obtain ⟨ad112,A112_0,c112_0,A112_1,c112_1,e112,hx112_0,hx112_1,hx112_2,hl112_0,hi112_0,hl112_1,hi112_1⟩:=at_T30 HR0.out x8_1 p112 q112
           obtain rfl:ad111 = ad112:=(by injection e112)
           replace hx112_0:=(HB.out.cell (World.block_lt_of_cell? w _ hx112_0)).trans hx112_0
           replace hx112_1:=(HB.out.cell (World.block_lt_of_cell? w _ hx112_1)).trans hx112_1
           replace hx112_2:=(HB.out.cell (World.block_lt_of_cell? w _ hx112_2)).trans hx112_2
           have HR112_0:=Aside0.mk hi112_0
           have HC112_0:=Aside0.mk hl112_0
           clear hi112_0 hl112_0
           have HR112_1:=Aside0.mk hi112_1
           have HC112_1:=Aside0.mk hl112_1
           clear hi112_1 hl112_1
           replace p112:=eq_true p112
           replace q112:=eq_true q112
           have ea_:=Option.some.inj (hx111_0.symm.trans hx112_0)
           injection ea_ with ea_ en_ ec_
           subst ea_
           subst ec_
           clear en_
           have ea_:=Option.some.inj (hx111_1.symm.trans hx112_1)
           injection ea_ with ea_ en_ ec_
           subst ea_
           subst ec_
           clear en_
           have p113:0 ≤ (x10_2:Int):=of_decide_eq_true (by first|(with_reducible assumption)|assumption)
           have q113:x10_2 < (((rd_T30 l0 x8_1).f0).length:Int):=of_decide_eq_true (by first|(with_reducible assumption)|assumption)
           obtain ⟨ad113,e113,hx113_0⟩:=Kd.at_string HR112_0.out x10_2 p113 q113
           cases e113
           replace hx113_0:=(HB.out.cell (World.block_lt_of_cell? w _ hx113_0)).trans hx113_0
           replace p113:=eq_true p113
           replace q113:=eq_true q113
           go_wp2
           go_roundg k2
           case measure=>have:=HK1.out;have:=HK2.out;omega
           case rel=>exact ⟨(((rdOf ByteArray.empty ((rd_T30 l0 x8_1).f0) x10_2).toList == a1.toList)),(wrap64 (x10_2 + 1)),(by first|rfl|(simp;done)|(simp only [i64_w,i32_w];done)|(simp only [i64_w,i32_w];rfl)|(simp [*];done)|(simp [emp_bne,emp_beq];done)),(by first|rfl|(simp;done)|(simp only [i64_w,i32_w];done)|(simp only [i64_w,i32_w];rfl)|(simp [*];done)|(simp [emp_bne,emp_beq];done)),H',⟨by have:=HK1.out;have:=HK2.out;omega⟩,⟨by (with_reducible repeat (first|apply Kd.R_alloc|apply Kd.R_drewN|apply Kd.R_drew));exact HO_111000.out⟩,⟨by (with_reducible repeat (first|apply Kd.R_alloc|apply Kd.R_drewN|apply Kd.R_drew));exact HO_111001.out⟩,⟨by (with_reducible repeat (first|refine blk_drewN ?_ _|refine blk_drew ?_|refine blk_alloc ?_ _));exact BK103.out⟩,⟨by (with_reducible repeat (first|refine blk_drewN ?_ _|refine blk_drew ?_|refine blk_alloc ?_ _));exact BK110.out⟩,⟨by repeat (first|(with_reducible first|exact HB.out|apply below_alloc|apply pw_below_drewN|apply below_drew1|refine below_set ?_ GE103.out|refine below_set ?_ GE110.out)|exact HB.out)⟩⟩
          ·rw [if_neg c18] at H
           exact absurd H (by simp)
        ·rw [if_neg c16] at H
         have c16b0:decide (x10_2 < (((rd_T30 l0 x8_1).f0).length:Int)) = false:=decide_eq_false c16
         clear c16
         by_cases c19:x9_2 = true
         ·subst c19
          have H1:(if x111001_1.length + ((rd_T30 l0 x8_1).f1).length < 5864062014805 then (spec_l2Of.l0 k2 l0 a1 true (wrap64 (x8_1 + 1)) y104 (x111001_1 ++ ((rd_T30 l0 x8_1).f1)) (mx x111002_1 ((rd_T30 l0 x8_1).f2))) else (none)) = some (r1,r2,r3,r4):=by rw [if_pos rfl] at H;exact H
          clear H
          have H:=H1
          clear H1
          by_cases c20:x111001_1.length + ((rd_T30 l0 x8_1).f1).length < 5864062014805
          ·rw [if_pos c20] at H
           have LMc20:=Aside0.mk c20
           clear c20
           obtain ⟨y115,hy115⟩:∃ y_:List (S57),y_ = (x111001_1 ++ ((rd_T30 l0 x8_1).f1)):=⟨_,rfl⟩
           replace H:(spec_l2Of.l0 k2 l0 a1 true (wrap64 (x8_1 + 1)) y104 y115 (mx x111002_1 ((rd_T30 l0 x8_1).f2))) = some (r1,r2,r3,r4):=by first|(rw [hy115];with_reducible exact H)|(have H2_:=(Option.bind_some _ _).symm.trans H;rw [hy115];with_reducible exact H2_)|(have H2_:=(Option.bind_some _ _).symm.trans H;with_reducible exact H2_)|with_reducible exact H|(rw [hy115];exact H)|exact H
           have Ny115:=Aside0.mk hy115
           clear hy115
           obtain ⟨ji21,hji21⟩:∃ j_:Int,(mx x111002_1 ((rd_T30 l0 x8_1).f2)) = j_:=⟨_,rfl⟩
           replace H:(spec_l2Of.l0 k2 l0 a1 true (wrap64 (x8_1 + 1)) y104 y115 ji21) = some (r1,r2,r3,r4):=by first|(rw [hji21] at H;exact H)|(simp only [hji21] at H ⊢;exact H)
           have hji21_:(if x111002_1 < ((rd_T30 l0 x8_1).f2) then ((rd_T30 l0 x8_1).f2) else x111002_1) = ji21:=hji21
           have H':=Aside0.mk H
           clear H
           have p111:0 ≤ (x8_1:Int):=of_decide_eq_true (by first|(with_reducible assumption)|assumption)
           have q111:x8_1 < (l0.length:Int):=of_decide_eq_true (by first|(with_reducible assumption)|assumption)
           obtain ⟨ad111,A111_0,c111_0,A111_1,c111_1,e111,hx111_0,hx111_1,hx111_2,hl111_0,hi111_0,hl111_1,hi111_1⟩:=at_T30 HR0.out x8_1 p111 q111
           cases e111
           replace hx111_0:=(HB.out.cell (World.block_lt_of_cell? w _ hx111_0)).trans hx111_0
           replace hx111_1:=(HB.out.cell (World.block_lt_of_cell? w _ hx111_1)).trans hx111_1
           replace hx111_2:=(HB.out.cell (World.block_lt_of_cell? w _ hx111_2)).trans hx111_2
           have HR111_0:=Aside0.mk hi111_0
           have HC111_0:=Aside0.mk hl111_0
           clear hi111_0 hl111_0
           have HR111_1:=Aside0.mk hi111_1
           have HC111_1:=Aside0.mk hl111_1
           clear hi111_1 hl111_1
           replace p111:=eq_true p111
           replace q111:=eq_true q111
           try go_wp2
           have n0_:=Aside0.mk (Kd.R_drew HO_111000.out)
           have n1_:=Aside0.mk (Kd.R_drew HO_111001.out)
           have n2_:=Aside0.mk (blk_drew BK103.out)
           have n3_:=Aside0.mk (blk_drew BK110.out)
           have n4_:=Aside0.mk (below_drew1 HB.out)
           clear HO_111000
           clear HO_111001
           clear BK103
           clear BK110
           clear HB
           have HO_111000:=n0_
           have HO_111001:=n1_
           have BK103:=n2_
           have BK110:=n3_
           have HB:=n4_
           clear n0_ n1_ n2_ n3_ n4_
           have p114:0 ≤ (x8_1:Int):=of_decide_eq_true (by first|(with_reducible assumption)|assumption)
           have q114:x8_1 < (l0.length:Int):=of_decide_eq_true (by first|(with_reducible assumption)|assumption)
           obtain ⟨ad114,A114_0,c114_0,A114_1,c114_1,e114,hx114_0,hx114_1,hx114_2,hl114_0,hi114_0,hl114_1,hi114_1⟩:=at_T30 HR0.out x8_1 p114 q114
           have hw114_2:=hx114_2
           have hw114_1:=hx114_1
           have hw114_0:=hx114_0
           obtain rfl:ad111 = ad114:=(by injection e114)
           replace hx114_0:=(HB.out.cell (World.block_lt_of_cell? w _ hx114_0)).trans hx114_0
           replace hx114_1:=(HB.out.cell (World.block_lt_of_cell? w _ hx114_1)).trans hx114_1
           replace hx114_2:=(HB.out.cell (World.block_lt_of_cell? w _ hx114_2)).trans hx114_2
           have HR114_0:=Aside0.mk hi114_0
           have HC114_0:=Aside0.mk hl114_0
           clear hi114_0 hl114_0
           have HR114_1:=Aside0.mk hi114_1
           have HC114_1:=Aside0.mk hl114_1
           clear hi114_1 hl114_1
           replace p114:=eq_true p114
           replace q114:=eq_true q114
           refine start_ (n:=10) (S:=fun w'=>w'.cell? ⟨gb110,0,none⟩ = some (.slice Ao9 y104.length co9) ∧ w'.cell? ⟨gb110,1,none⟩ = some (u111001) ∧ w'.cell? ⟨gb110,2,none⟩ = some (.int .i64 x111002_1) ∧ w'.cell? (ad111.add ((x8_1).toNat * 3)) = some (.slice A114_0 ((rd_T30 l0 x8_1).f0).length c114_0) ∧ w'.cell? ⟨(ad111.add ((x8_1).toNat * 3)).block,(ad111.add ((x8_1).toNat * 3)).off + 1,none⟩ = some (.slice A114_1 ((rd_T30 l0 x8_1).f1).length c114_1) ∧ w'.cell? ⟨(ad111.add ((x8_1).toNat * 3)).block,(ad111.add ((x8_1).toNat * 3)).off + 2,none⟩ = some (.int .i64 ((rd_T30 l0 x8_1).f2))) (ds:=[9]) #[false,false,false,false,false,false,false,false,false,false] (by kernel_rfl) rfl rfl ⟨(blk_cell BK110.out 0).trans rfl,(blk_cell BK110.out 1).trans rfl,(blk_cell BK110.out 2).trans rfl,((HB.out.cell (World.block_lt_of_cell? w _ hw114_0)).trans hw114_0),((HB.out.cell (World.block_lt_of_cell? w _ hw114_1)).trans hw114_1),((HB.out.cell (World.block_lt_of_cell? w _ hw114_2)).trans hw114_2)⟩ (fun hHeld=>?_);refine with_tabW spec_l2Of.tab13 spec_l2Of.bits13 (fun HT_ HW_=>?_)
           generalize wr.drew = w22 at HO_111000 HO_111001 BK103 BK110 HB HR114_0 HR114_1 hx114_0 hx114_1 hx114_2 hHeld ⊢
           refine pure_ (i:=0) (N:=some 45) (v:=?_) (a':=?_) #[true,false,false,false,false,false,false,false,false,false] rfl rfl (any_of HT_.out (by kernel_rfl)) (fun _ _ _ h=>h) (Or.inl ⟨by rfl,?_⟩) ?_ ?_
           rotate_left
           ·intro w'
            go_simp
            with_reducible rfl
           rotate_left
           ·simp only [Act.put,List.setIfInBounds_toArray,List.set_cons_zero,List.set_cons_succ,i64_w,i32_w]
            rfl
           refine pure_ (i:=2) (N:=some 47) (v:=?_) (a':=?_) #[true,false,true,false,false,false,false,false,false,false] rfl rfl (any_of HT_.out (by kernel_rfl)) (fun _ _ _ h=>h) (Or.inl ⟨by rfl,?_⟩) ?_ ?_
           rotate_left
           ·intro w'
            go_simp
            with_reducible rfl
           rotate_left
           ·simp only [Act.put,List.setIfInBounds_toArray,List.set_cons_zero,List.set_cons_succ,i64_w,i32_w]
            rfl
           refine pure_ (i:=3) (N:=some 48) (v:=?_) (a':=?_) #[true,false,true,true,false,false,false,false,false,false] rfl rfl (any_of HT_.out (by kernel_rfl)) (fun _ _ _ h=>h) (Or.inl ⟨by rfl,?_⟩) ?_ ?_
           rotate_left
           ·intro w'
            go_simp
            with_reducible rfl
           rotate_left
           ·simp only [Act.put,List.setIfInBounds_toArray,List.set_cons_zero,List.set_cons_succ,i64_w,i32_w]
            rfl
           refine pure_ (i:=4) (N:=some 49) (v:=?_) (a':=?_) #[true,false,true,true,true,false,false,false,false,false] rfl rfl (any_of HT_.out (by kernel_rfl)) (fun _ _ _ h=>h) (Or.inl ⟨by rfl,?_⟩) ?_ ?_
           rotate_left
           ·intro w'
            go_simp
            with_reducible rfl
           rotate_left
           ·simp only [Act.put,List.setIfInBounds_toArray,List.set_cons_zero,List.set_cons_succ,i64_w,i32_w]
            rfl
           refine pure_ (i:=5) (N:=some 50) (v:=?_) (a':=?_) #[true,false,true,true,true,true,false,false,false,false] rfl rfl (any_of HT_.out (by kernel_rfl)) (fun _ _ _ h=>h) (Or.inl ⟨by rfl,?_⟩) ?_ ?_
           rotate_left
           ·intro w'
            go_simp
            with_reducible rfl
           rotate_left
           ·simp only [Act.put,List.setIfInBounds_toArray,List.set_cons_zero,List.set_cons_succ,i64_w,i32_w]
            rfl
           refine take_ (i:=1) (N:=some 46) (v:=?_) (a':=?_) #[true,true,true,true,true,true,false,false,false,false] rfl rfl (take_ofW HT_.out HW_.out (by kernel_rfl)) (fun _ _ _ h=>h) (Or.inl ⟨by rfl,?_⟩) hHeld ?_ ?_
           rotate_left
           ·rintro w' ⟨s0,s1,s2,s3,s4,s5⟩
            go_simp
            with_reducible rfl
           rotate_left
           ·simp only [Act.put,List.setIfInBounds_toArray,List.set_cons_zero,List.set_cons_succ,i64_w,i32_w]
            rfl
           refine take_ (i:=6) (N:=some 51) (v:=?_) (a':=?_) #[true,true,true,true,true,true,true,false,false,false] rfl rfl (take_ofW HT_.out HW_.out (by kernel_rfl)) (fun _ _ _ h=>h) (Or.inl ⟨by rfl,?_⟩) hHeld ?_ ?_
           rotate_left
           ·rintro w' ⟨s0,s1,s2,s3,s4,s5⟩
            go_simp
            with_reducible rfl
           rotate_left
           ·simp only [Act.put,List.setIfInBounds_toArray,List.set_cons_zero,List.set_cons_succ,i64_w,i32_w]
            rfl
           refine one_ (i:=7) (N:=some 52) #[true,true,true,true,true,true,true,true,false,false] rfl rfl (one_of HT_.out (by kernel_rfl)) (by decide) (fun K hK=>?_)
           refine Kd.R_append_rows_step k57 (w0:=w) w.heap.size (by rfl) (.tmp 46) (.tmp 51) 28 57 (.agg #[(.bool false),(.string ⟨#[]⟩)]) 24 rfl Try.underlying28 info57 rfl (by decide) (by omega) u111001 x111001_1 ((rd_T30 l0 x8_1).f1) _ _ _ (fun _=>True) (fun _=>False) rfl rfl ?aO ?aR (fun _ _ h=>h) (fun _ h=>h.elim) ?aF ?aB ?aS ?aL ?_
           (case aR=>repeat (first|exact (Kd.C_below HR114_1.out HB.out)|(with_reducible refine Kd.C_alloc ?_ _)|(with_reducible refine Kd.C_drewN ?_ _)|(with_reducible refine Kd.C_drew ?_)))
           (case aB=>exact (by repeat (first|(with_reducible first|exact HB.out|apply below_alloc|apply pw_below_drewN|apply below_drew1|refine below_set ?_ GE103.out|refine below_set ?_ GE110.out)|exact HB.out)))
           (case aF=>exact (fun _ _=>trivial))
           (case aO=>exact (by (with_reducible repeat (first|apply Kd.R_alloc|apply Kd.R_drewN|apply Kd.R_drew));exact HO_111001.out))
           (case aS=>exact (below_size (by repeat (first|(with_reducible first|exact HB.out|apply below_alloc|apply pw_below_drewN|apply below_drew1|refine below_set ?_ GE103.out|refine below_set ?_ GE110.out)|exact HB.out))))
           (case aL=>have:=LMc20.out;omega)
           intro v116 w23 ho hb hg hat
           rw [← Ny115.out] at ho
           have n0_:=Aside0.mk (Kd.R_over' (by (with_reducible repeat (first|apply Kd.R_alloc|apply Kd.R_drewN|apply Kd.R_drew));exact HO_111000.out) (Kd.R_typed (by (with_reducible repeat (first|apply Kd.R_alloc|apply Kd.R_drewN|apply Kd.R_drew));exact HO_111001.out)) (by decide) hg)
           have n1_:=Aside0.mk (blk_grown (g:=gb103) (o:=.cells #[.slice none 0 0, .slice none 0 0, .int .i64 0] 30 (0,0)) (by (with_reducible repeat (first|refine blk_drewN ?_ _|refine blk_drew ?_|refine blk_alloc ?_ _));exact BK103.out) hg (Kd.R_ne HO_111001.out BK103.out (by decide)))
           have n2_:=Aside0.mk (blk_grown (g:=gb110) (o:=.cells #[.slice Ao9 y104.length co9,u111001, .int .i64 x111002_1] 30 (0,0)) (by (with_reducible repeat (first|refine blk_drewN ?_ _|refine blk_drew ?_|refine blk_alloc ?_ _));exact BK110.out) hg (Kd.R_ne HO_111001.out BK110.out (by decide)))
           have n3_:=Aside0.mk (hb)
           have n4_:=Aside0.mk (ho)
           clear HO_111000
           clear BK103
           clear BK110
           clear HB
           clear HO_111001
           have HO_111000:=n0_
           have BK103:=n1_
           have BK110:=n2_
           have HB:=n3_
           have HO117:=n4_
           clear n0_ n1_ n2_ n3_ n4_
           clear ho hb hg hat
           obtain ⟨Ao24,co24,eo24⟩:=Kd.R_slice HO117.out
           (first|subst eo24|(injection eo24 with f1_ f2_ f3_;have f4_:=f1_.symm;have f5_:=f3_.symm;clear f1_ f2_ f3_;subst f4_;subst f5_))
           refine hK.out _ _ ⟨(blk_cell BK110.out 0).trans rfl,(blk_cell BK110.out 1).trans rfl,(blk_cell BK110.out 2).trans rfl,((HB.out.cell (World.block_lt_of_cell? w _ hw114_0)).trans hw114_0),((HB.out.cell (World.block_lt_of_cell? w _ hw114_1)).trans hw114_1),((HB.out.cell (World.block_lt_of_cell? w _ hw114_2)).trans hw114_2)⟩ (fun hHeld=>?_)
           clear hK K
           refine norm_ (a':=?_) ?_ ?_
           rotate_left
           ·show Act.put _ (some 52) _ = _
            simp only [Act.put,List.setIfInBounds_toArray,List.set_cons_zero,List.set_cons_succ,i64_w,i32_w]
            rfl
           refine pure_ (i:=8) (N:=some 53) (v:=?_) (a':=?_) #[true,true,true,true,true,true,true,true,true,false] rfl rfl (any_of HT_.out (by kernel_rfl)) (fun _ _ _ h=>h) (Or.inl ⟨by rfl,?_⟩) ?_ ?_
           rotate_left
           ·intro w'
            go_simp
            with_reducible rfl
           rotate_left
           ·simp only [Act.put,List.setIfInBounds_toArray,List.set_cons_zero,List.set_cons_succ,i64_w,i32_w]
            rfl
           refine last_ (i:=9) (N:=none) #[true,true,true,true,true,true,true,true,true,true] rfl rfl (one_of HT_.out (by kernel_rfl)) (by decide) (fun K hK=>?_)
           have hs25:w23.cell? ⟨gb110,1,none⟩ = some (u111001):=(blk_cell BK110.out 1).trans rfl
           have hfs25:=blk_frozen BK110.out 1
           have hns25_0:=NB103_110.out
           have hms25_0:=NB110_103.out
           refine skip_ (w1:=?_) (by rfl) rfl ?_ ?_
           rotate_left
           ·go_simp
            rfl
           refine hK.out _ _ ?_
           clear hK K
           refine done_ (done_of HT_.out (by kernel_rfl)) ?_
           try go_wp2
           have n0_:Aside0 (Kd.R Kd.string 9 (w23.setCell ⟨gb110,1,none⟩ (.slice Ao24 y115.length co24)) w.heap.size (fun _=>True) (.slice Ao9 y104.length co9) y104):=⟨by (with_reducible repeat (first|apply Kd.R_alloc|apply Kd.R_drewN|apply Kd.R_drew));exact Kd.R_mono (Kd.R_far (p:=⟨gb110,1,none⟩) (Kd.R_types HO_111000.out BK110.out (by decide)) (fun _ hk=>hk.2) (.slice Ao24 y115.length co24)) (fun _ hk=>trivial)⟩
           have n1_:Aside0 (Kd.R k57 57 (w23.setCell ⟨gb110,1,none⟩ (.slice Ao24 y115.length co24)) w.heap.size (fun _=>True) (.slice Ao24 y115.length co24) y115):=⟨by (with_reducible repeat (first|apply Kd.R_alloc|apply Kd.R_drewN|apply Kd.R_drew));exact Kd.R_mono (Kd.R_far (p:=⟨gb110,1,none⟩) (Kd.R_types HO117.out BK110.out (by decide)) (fun _ hk=>hk.2) (.slice Ao24 y115.length co24)) (fun _ hk=>trivial)⟩
           have n2_:Aside0 ((w23.setCell ⟨gb110,1,none⟩ (.slice Ao24 y115.length co24)).heap[gb103]? = some (.cells #[.slice none 0 0, .slice none 0 0, .int .i64 0] 30 (0,0))):=⟨by (with_reducible repeat (first|refine blk_drewN ?_ _|refine blk_drew ?_|refine blk_alloc ?_ _));refine blk_far ?_ NB103_110.out _;(with_reducible repeat (first|refine blk_drewN ?_ _|refine blk_drew ?_|refine blk_alloc ?_ _));exact BK103.out⟩
           have n3_:Aside0 ((w23.setCell ⟨gb110,1,none⟩ (.slice Ao24 y115.length co24)).heap[gb110]? = some (.cells #[.slice Ao9 y104.length co9, .slice Ao24 y115.length co24, .int .i64 x111002_1] 30 (0,0))):=⟨by (with_reducible repeat (first|refine blk_drewN ?_ _|refine blk_drew ?_|refine blk_alloc ?_ _));refine blk_put (cs:=#[.slice Ao9 y104.length co9,u111001, .int .i64 x111002_1]) ?_ 1 _ rfl;(with_reducible repeat (first|refine blk_drewN ?_ _|refine blk_drew ?_|refine blk_alloc ?_ _));exact BK110.out⟩
           have n4_:Aside0 (Below w.heap.size w (w23.setCell ⟨gb110,1,none⟩ (.slice Ao24 y115.length co24))):=⟨by repeat (first|(with_reducible first|exact HB.out|apply below_alloc|apply pw_below_drewN|apply below_drew1|refine below_set ?_ GE103.out|refine below_set ?_ GE110.out)|exact HB.out)⟩
           (try clear HO_111000)
           (try clear HO117)
           (try clear BK103)
           (try clear BK110)
           (try clear HB)
           generalize (w23.setCell ⟨gb110,1,none⟩ (.slice Ao24 y115.length co24)) = w26 at n0_ n1_ n2_ n3_ n4_ ⊢
           have HO_111000:=n0_
           have HO117:=n1_
           have BK103:=n2_
           have BK110:=n3_
           have HB:=n4_
           clear n0_ n1_ n2_ n3_ n4_
           have n0_:=Aside0.mk (Kd.R_drew HO_111000.out)
           have n1_:=Aside0.mk (Kd.R_drew HO117.out)
           have n2_:=Aside0.mk (blk_drew BK103.out)
           have n3_:=Aside0.mk (blk_drew BK110.out)
           have n4_:=Aside0.mk (below_drew1 HB.out)
           clear HO_111000
           clear HO117
           clear BK103
           clear BK110
           clear HB
           have HO_111000:=n0_
           have HO117:=n1_
           have BK103:=n2_
           have BK110:=n3_
           have HB:=n4_
           clear n0_ n1_ n2_ n3_ n4_
           have p118:0 ≤ (x8_1:Int):=of_decide_eq_true (by first|(with_reducible assumption)|assumption)
           have q118:x8_1 < (l0.length:Int):=of_decide_eq_true (by first|(with_reducible assumption)|assumption)
           obtain ⟨ad118,A118_0,c118_0,A118_1,c118_1,e118,hx118_0,hx118_1,hx118_2,hl118_0,hi118_0,hl118_1,hi118_1⟩:=at_T30 HR0.out x8_1 p118 q118
           have hw118_2:=hx118_2
           have hw118_1:=hx118_1
           have hw118_0:=hx118_0
           obtain rfl:ad111 = ad118:=(by injection e118)
           replace hx118_0:=(HB.out.cell (World.block_lt_of_cell? w _ hx118_0)).trans hx118_0
           replace hx118_1:=(HB.out.cell (World.block_lt_of_cell? w _ hx118_1)).trans hx118_1
           replace hx118_2:=(HB.out.cell (World.block_lt_of_cell? w _ hx118_2)).trans hx118_2
           have HR118_0:=Aside0.mk hi118_0
           have HC118_0:=Aside0.mk hl118_0
           clear hi118_0 hl118_0
           have HR118_1:=Aside0.mk hi118_1
           have HC118_1:=Aside0.mk hl118_1
           clear hi118_1 hl118_1
           replace p118:=eq_true p118
           replace q118:=eq_true q118
           refine start_ (n:=10) (S:=fun w'=>w'.cell? ⟨gb110,0,none⟩ = some (.slice Ao9 y104.length co9) ∧ w'.cell? ⟨gb110,1,none⟩ = some (.slice Ao24 y115.length co24) ∧ w'.cell? ⟨gb110,2,none⟩ = some (.int .i64 x111002_1) ∧ w'.cell? (ad111.add ((x8_1).toNat * 3)) = some (.slice A118_0 ((rd_T30 l0 x8_1).f0).length c118_0) ∧ w'.cell? ⟨(ad111.add ((x8_1).toNat * 3)).block,(ad111.add ((x8_1).toNat * 3)).off + 1,none⟩ = some (.slice A118_1 ((rd_T30 l0 x8_1).f1).length c118_1) ∧ w'.cell? ⟨(ad111.add ((x8_1).toNat * 3)).block,(ad111.add ((x8_1).toNat * 3)).off + 2,none⟩ = some (.int .i64 ((rd_T30 l0 x8_1).f2))) (ds:=[9]) #[false,false,false,false,false,false,false,false,false,false] (by kernel_rfl) rfl rfl ⟨(blk_cell BK110.out 0).trans rfl,(blk_cell BK110.out 1).trans rfl,(blk_cell BK110.out 2).trans rfl,((HB.out.cell (World.block_lt_of_cell? w _ hw118_0)).trans hw118_0),((HB.out.cell (World.block_lt_of_cell? w _ hw118_1)).trans hw118_1),((HB.out.cell (World.block_lt_of_cell? w _ hw118_2)).trans hw118_2)⟩ (fun hHeld=>?_);refine with_tabW spec_l2Of.tab14 spec_l2Of.bits14 (fun HT_ HW_=>?_)
           generalize w26.drew = w27 at HO_111000 HO117 BK103 BK110 HB HR118_0 HR118_1 hx118_0 hx118_1 hx118_2 hHeld ⊢
           refine pure_ (i:=0) (N:=some 54) (v:=?_) (a':=?_) #[true,false,false,false,false,false,false,false,false,false] rfl rfl (any_of HT_.out (by kernel_rfl)) (fun _ _ _ h=>h) (Or.inl ⟨by rfl,?_⟩) ?_ ?_
           rotate_left
           ·intro w'
            go_simp
            with_reducible rfl
           rotate_left
           ·simp only [Act.put,List.setIfInBounds_toArray,List.set_cons_zero,List.set_cons_succ,i64_w,i32_w]
            rfl
           refine pure_ (i:=2) (N:=some 56) (v:=?_) (a':=?_) #[true,false,true,false,false,false,false,false,false,false] rfl rfl (any_of HT_.out (by kernel_rfl)) (fun _ _ _ h=>h) (Or.inl ⟨by rfl,?_⟩) ?_ ?_
           rotate_left
           ·intro w'
            go_simp
            with_reducible rfl
           rotate_left
           ·simp only [Act.put,List.setIfInBounds_toArray,List.set_cons_zero,List.set_cons_succ,i64_w,i32_w]
            rfl
           refine pure_ (i:=3) (N:=some 57) (v:=?_) (a':=?_) #[true,false,true,true,false,false,false,false,false,false] rfl rfl (any_of HT_.out (by kernel_rfl)) (fun _ _ _ h=>h) (Or.inl ⟨by rfl,?_⟩) ?_ ?_
           rotate_left
           ·intro w'
            go_simp
            with_reducible rfl
           rotate_left
           ·simp only [Act.put,List.setIfInBounds_toArray,List.set_cons_zero,List.set_cons_succ,i64_w,i32_w]
            rfl
           refine pure_ (i:=4) (N:=some 58) (v:=?_) (a':=?_) #[true,false,true,true,true,false,false,false,false,false] rfl rfl (any_of HT_.out (by kernel_rfl)) (fun _ _ _ h=>h) (Or.inl ⟨by rfl,?_⟩) ?_ ?_
           rotate_left
           ·intro w'
            go_simp
            with_reducible rfl
           rotate_left
           ·simp only [Act.put,List.setIfInBounds_toArray,List.set_cons_zero,List.set_cons_succ,i64_w,i32_w]
            rfl
           refine pure_ (i:=5) (N:=some 59) (v:=?_) (a':=?_) #[true,false,true,true,true,true,false,false,false,false] rfl rfl (any_of HT_.out (by kernel_rfl)) (fun _ _ _ h=>h) (Or.inl ⟨by rfl,?_⟩) ?_ ?_
           rotate_left
           ·intro w'
            go_simp
            with_reducible rfl
           rotate_left
           ·simp only [Act.put,List.setIfInBounds_toArray,List.set_cons_zero,List.set_cons_succ,i64_w,i32_w]
            rfl
           refine take_ (i:=1) (N:=some 55) (v:=?_) (a':=?_) #[true,true,true,true,true,true,false,false,false,false] rfl rfl (take_ofW HT_.out HW_.out (by kernel_rfl)) (fun _ _ _ h=>h) (Or.inl ⟨by rfl,?_⟩) hHeld ?_ ?_
           rotate_left
           ·rintro w' ⟨s0,s1,s2,s3,s4,s5⟩
            go_simp
            with_reducible rfl
           rotate_left
           ·simp only [Act.put,List.setIfInBounds_toArray,List.set_cons_zero,List.set_cons_succ,i64_w,i32_w]
            rfl
           refine take_ (i:=6) (N:=some 60) (v:=?_) (a':=?_) #[true,true,true,true,true,true,true,false,false,false] rfl rfl (take_ofW HT_.out HW_.out (by kernel_rfl)) (fun _ _ _ h=>h) (Or.inl ⟨by rfl,?_⟩) hHeld ?_ ?_
           rotate_left
           ·rintro w' ⟨s0,s1,s2,s3,s4,s5⟩
            go_simp
            with_reducible rfl
           rotate_left
           ·simp only [Act.put,List.setIfInBounds_toArray,List.set_cons_zero,List.set_cons_succ,i64_w,i32_w]
            rfl
           refine pure_ (i:=7) (N:=some 61) (v:=?_) (a':=?_) #[true,true,true,true,true,true,true,true,false,false] rfl rfl (any_of HT_.out (by kernel_rfl)) (fun _ _ _ h=>h) (Or.inl ⟨by rfl,?_⟩) ?_ ?_
           rotate_left
           ·intro w'
            go_simp
            with_reducible rfl
           rotate_left
           ·simp only [Act.put,List.setIfInBounds_toArray,List.set_cons_zero,List.set_cons_succ,i64_w,i32_w]
            rfl
           refine pure_ (i:=8) (N:=some 62) (v:=?_) (a':=?_) #[true,true,true,true,true,true,true,true,true,false] rfl rfl (any_of HT_.out (by kernel_rfl)) (fun _ _ _ h=>h) (Or.inl ⟨by rfl,?_⟩) ?_ ?_
           rotate_left
           ·intro w'
            go_simp
            with_reducible rfl
           rotate_left
           ·simp only [Act.put,List.setIfInBounds_toArray,List.set_cons_zero,List.set_cons_succ,i64_w,i32_w]
            rfl
           refine last_ (i:=9) (N:=none) #[true,true,true,true,true,true,true,true,true,true] rfl rfl (one_of HT_.out (by kernel_rfl)) (by decide) (fun K hK=>?_)
           have hs28:w27.cell? ⟨gb110,2,none⟩ = some (.int .i64 x111002_1):=(blk_cell BK110.out 2).trans rfl
           have hfs28:=blk_frozen BK110.out 2
           have hns28_0:=NB103_110.out
           have hms28_0:=NB110_103.out
           refine skip_ (w1:=?_) (by rfl) rfl ?_ ?_
           rotate_left
           ·go_simp
            rfl
           refine hK.out _ _ ?_
           clear hK K
           refine done_ (done_of HT_.out (by kernel_rfl)) ?_
           try go_wp2
           go_roundg k2
           case measure=>have:=HK1.out;have:=HK2.out;omega
           case rel=>exact ⟨(true),(wrap64 (x8_1 + 1)),(y115),(ji21),(.slice Ao24 y115.length co24),(by first|rfl|(simp;done)|(simp only [i64_w,i32_w];done)|(simp only [i64_w,i32_w];rfl)|(simp [*];done)|(simp [emp_bne,emp_beq];done)),(by first|rfl|(simp;done)|(simp only [i64_w,i32_w];done)|(simp only [i64_w,i32_w];rfl)|(simp [*];done)|(simp [emp_bne,emp_beq];done)),H',⟨by have:=HK1.out;have:=HK2.out;omega⟩,⟨by (with_reducible repeat (first|apply Kd.R_alloc|apply Kd.R_drewN|apply Kd.R_drew));exact Kd.R_mono (Kd.R_far (p:=⟨gb110,2,none⟩) (Kd.R_types HO_111000.out BK110.out (by decide)) (fun _ hk=>hk.2) (.int .i64 ji21)) (fun _ hk=>trivial)⟩,⟨by (with_reducible repeat (first|apply Kd.R_alloc|apply Kd.R_drewN|apply Kd.R_drew));exact Kd.R_mono (Kd.R_far (p:=⟨gb110,2,none⟩) (Kd.R_types HO117.out BK110.out (by decide)) (fun _ hk=>hk.2) (.int .i64 ji21)) (fun _ hk=>trivial)⟩,⟨by (with_reducible repeat (first|refine blk_drewN ?_ _|refine blk_drew ?_|refine blk_alloc ?_ _));refine blk_far ?_ NB103_110.out _;(with_reducible repeat (first|refine blk_drewN ?_ _|refine blk_drew ?_|refine blk_alloc ?_ _));exact BK103.out⟩,⟨by (with_reducible repeat (first|refine blk_drewN ?_ _|refine blk_drew ?_|refine blk_alloc ?_ _));refine blk_put (cs:=#[.slice Ao9 y104.length co9, .slice Ao24 y115.length co24, .int .i64 x111002_1]) ?_ 2 _ rfl;(with_reducible repeat (first|refine blk_drewN ?_ _|refine blk_drew ?_|refine blk_alloc ?_ _));exact BK110.out⟩,⟨by repeat (first|(with_reducible first|exact HB.out|apply below_alloc|apply pw_below_drewN|apply below_drew1|refine below_set ?_ GE103.out|refine below_set ?_ GE110.out)|exact HB.out)⟩⟩
          ·rw [if_neg c20] at H
           exact absurd H (by simp)
         ·replace c19:=Bool.eq_false_iff.mpr c19
          subst c19
          have H1:(spec_l2Of.l0 k2 l0 a1 x7_1 (wrap64 (x8_1 + 1)) y104 x111001_1 x111002_1) = some (r1,r2,r3,r4):=by rw [if_neg (show ¬ (false = true) by decide)] at H;exact H
          clear H
          have H:=H1
          clear H1
          have H':=Aside0.mk H
          clear H
          have p111:0 ≤ (x8_1:Int):=of_decide_eq_true (by first|(with_reducible assumption)|assumption)
          have q111:x8_1 < (l0.length:Int):=of_decide_eq_true (by first|(with_reducible assumption)|assumption)
          obtain ⟨ad111,A111_0,c111_0,A111_1,c111_1,e111,hx111_0,hx111_1,hx111_2,hl111_0,hi111_0,hl111_1,hi111_1⟩:=at_T30 HR0.out x8_1 p111 q111
          cases e111
          replace hx111_0:=(HB.out.cell (World.block_lt_of_cell? w _ hx111_0)).trans hx111_0
          replace hx111_1:=(HB.out.cell (World.block_lt_of_cell? w _ hx111_1)).trans hx111_1
          replace hx111_2:=(HB.out.cell (World.block_lt_of_cell? w _ hx111_2)).trans hx111_2
          have HR111_0:=Aside0.mk hi111_0
          have HC111_0:=Aside0.mk hl111_0
          clear hi111_0 hl111_0
          have HR111_1:=Aside0.mk hi111_1
          have HC111_1:=Aside0.mk hl111_1
          clear hi111_1 hl111_1
          replace p111:=eq_true p111
          replace q111:=eq_true q111
          go_wp2
          go_roundg k2
          case measure=>have:=HK1.out;have:=HK2.out;omega
          case rel=>exact ⟨(x7_1),(wrap64 (x8_1 + 1)),(x111001_1),(x111002_1),(u111001),(by first|rfl|(simp;done)|(simp only [i64_w,i32_w];done)|(simp only [i64_w,i32_w];rfl)|(simp [*];done)|(simp [emp_bne,emp_beq];done)),(by first|rfl|(simp;done)|(simp only [i64_w,i32_w];done)|(simp only [i64_w,i32_w];rfl)|(simp [*];done)|(simp [emp_bne,emp_beq];done)),H',⟨by have:=HK1.out;have:=HK2.out;omega⟩,⟨by (with_reducible repeat (first|apply Kd.R_alloc|apply Kd.R_drewN|apply Kd.R_drew));exact HO_111000.out⟩,⟨by (with_reducible repeat (first|apply Kd.R_alloc|apply Kd.R_drewN|apply Kd.R_drew));exact HO_111001.out⟩,⟨by (with_reducible repeat (first|refine blk_drewN ?_ _|refine blk_drew ?_|refine blk_alloc ?_ _));exact BK103.out⟩,⟨by (with_reducible repeat (first|refine blk_drewN ?_ _|refine blk_drew ?_|refine blk_alloc ?_ _));exact BK110.out⟩,⟨by repeat (first|(with_reducible first|exact HB.out|apply below_alloc|apply pw_below_drewN|apply below_drew1|refine below_set ?_ GE103.out|refine below_set ?_ GE110.out)|exact HB.out)⟩⟩
       ·rw [if_neg c15] at H
        exact absurd H (by simp)
      ·rw [if_neg c14] at H
       exact absurd H (by simp)
   ·rw [if_neg c13] at H
    have c13b0:decide (x8_1 < (l0.length:Int)) = false:=decide_eq_false c13
    clear c13
    simp only [Option.some.injEq,Prod.mk.injEq] at H
    obtain ⟨rfl,rfl,rfl,rfl⟩:=H
    have hnb29:=NB110_103.out
    have hnc29:=NB103_110.out
    have hcz30_0:wr.cell? ⟨gb110,0,none⟩ = some (.slice Ao9 y104.length co9):=(blk_cell BK110.out 0).trans rfl
    have hcz30_1:wr.cell? ⟨gb110,1,none⟩ = some (u111001):=(blk_cell BK110.out 1).trans rfl
    have hcz30_2:wr.cell? ⟨gb110,2,none⟩ = some (.int .i64 x111002_1):=(blk_cell BK110.out 2).trans rfl
    have hfz30_0:=blk_frozen BK110.out 0
    have hfz30_1:=blk_frozen BK110.out 1
    have hfz30_2:=blk_frozen BK110.out 2
    have hcz31_0:wr.cell? ⟨gb103,0,none⟩ = some (.slice none 0 0):=(blk_cell BK103.out 0).trans rfl
    have hcz31_1:wr.cell? ⟨gb103,1,none⟩ = some (.slice none 0 0):=(blk_cell BK103.out 1).trans rfl
    have hcz31_2:wr.cell? ⟨gb103,2,none⟩ = some (.int .i64 0):=(blk_cell BK103.out 2).trans rfl
    have hfz31_0:=blk_frozen BK103.out 0
    have hfz31_1:=blk_frozen BK103.out 1
    have hfz31_2:=blk_frozen BK103.out 2
    obtain ⟨Ao32,co32,eo32⟩:=Kd.R_slice HO_111001.out
    subst eo32
    go_wp2
    refine bodyPost_ret (results_ct rfl _ _ gb103 30 #[.slice Ao9 y104.length co9, .slice Ao32 x111001_1.length co32, .int .i64 x111002_1] (0,0) _ rfl (by (with_reducible repeat (first|refine blk_drewN ?_ _|refine blk_drew ?_|refine blk_alloc ?_ _));refine blk_put (cs:=#[.slice Ao9 y104.length co9, .slice Ao32 x111001_1.length co32, .int .i64 0]) ?_ 2 _ rfl;(with_reducible repeat (first|refine blk_drewN ?_ _|refine blk_drew ?_|refine blk_alloc ?_ _));refine blk_put (cs:=#[.slice Ao9 y104.length co9, .slice none 0 0, .int .i64 0]) ?_ 1 _ rfl;(with_reducible repeat (first|refine blk_drewN ?_ _|refine blk_drew ?_|refine blk_alloc ?_ _));refine blk_put (cs:=#[.slice none 0 0, .slice none 0 0, .int .i64 0]) ?_ 0 _ rfl;(with_reducible repeat (first|refine blk_drewN ?_ _|refine blk_drew ?_|refine blk_alloc ?_ _));exact BK103.out) Try.underlying30 rfl (by kernel_rfl)) rfl ?_
    exact ⟨_,_,by first|rfl|(simp <;> rfl)|(simp [*] <;> rfl),by (with_reducible repeat (first|apply Kd.R_alloc|apply Kd.R_drewN|apply Kd.R_drew));exact Kd.R_mono (Kd.R_far (p:=⟨gb103,2,none⟩) (Kd.R_far (p:=⟨gb103,1,none⟩) (Kd.R_far (p:=⟨gb103,0,none⟩) (Kd.R_types HO_111000.out BK103.out (by decide)) (fun _ hk=>hk.2) (.slice Ao9 y104.length co9)) (fun _ hk=>hk.2) (.slice Ao32 x111001_1.length co32)) (fun _ hk=>hk.2) (.int .i64 x111002_1)) (fun _ hk=>trivial),by (with_reducible repeat (first|apply Kd.R_alloc|apply Kd.R_drewN|apply Kd.R_drew));exact Kd.R_mono (Kd.R_far (p:=⟨gb103,2,none⟩) (Kd.R_far (p:=⟨gb103,1,none⟩) (Kd.R_far (p:=⟨gb103,0,none⟩) (Kd.R_types HO_111001.out BK103.out (by decide)) (fun _ hk=>hk.2) (.slice Ao9 y104.length co9)) (fun _ hk=>hk.2) (.slice Ao32 x111001_1.length co32)) (fun _ hk=>hk.2) (.int .i64 x111002_1)) (fun _ hk=>trivial),by repeat (first|(with_reducible first|exact HB.out|apply below_alloc|apply pw_below_drewN|apply below_drew1|refine below_set ?_ GE103.out|refine below_set ?_ GE110.out)|exact HB.out)⟩

/-! ### spec_NoticeFor: function 14 -/
def spec_NoticeFor.f (k:Nat) (l0:List (S30)) (a1:ByteArray):Option (List ByteArray × (List (S57)) × Int):=(spec_l2Of.f k l0 a1).bind fun bt120=>(if bt120.2.2.2 = true then (some ((([a1]:List ByteArray)),bt120.2.1,bt120.2.2.1)) else ((spec_l2Of.f k l0 (⟨#[42]⟩:ByteArray)).bind fun bt132=>(some ((([a1]:List ByteArray)),bt132.2.1,bt132.2.2.1))))
theorem spec_NoticeFor.mono:∀ a0 a1 k,LeO (spec_NoticeFor.f k a0 a1) (spec_NoticeFor.f (k + 1) a0 a1):=by
 intro a0 a1 k
 unfold spec_NoticeFor.f
 repeat' first
   | (with_reducible exact spec_l2Of.mono _ _ _)
   | (with_reducible exact LeO.refl _)
   | (with_reducible exact LeO.none _)
   | (with_reducible refine LeO.ite ?_ ?_)
   | (with_reducible refine LeO.bind ?_ (fun _=>?_))
   | exact spec_l2Of.mono _ _ _
   | exact LeO.none _
   | refine LeO.ite ?_ ?_
   | refine LeO.bind ?_ (fun _=>?_)
theorem spec_NoticeFor.calls (k:Nat) (A0:Option Addr) (c0:Nat) (l0:List (S30)) (a1:ByteArray) (r1:List ByteArray) (r2:List (S57)) (r3:Int) (w:World) (hr0:Kd.C k30 w A0 l0.length l0) (hc0:l0.length ≤ c0) (h:spec_NoticeFor.f k l0 a1 = some (r1,r2,r3)) :
  Calls Try.prog 14 #[.slice A0 l0.length c0, .string a1] w fun e w'=>∃ v0_ v1_:Value,e = .returned (.agg #[v0_,v1_, .int .i64 r3]) ∧ Kd.R Kd.string 9 w' w.heap.size (fun _=>True) v0_ r1 ∧ Kd.R k57 57 w' w.heap.size (fun _=>True) v1_ r2 ∧ Below w.heap.size w w':=by
 have hu30:=Try.underlying30
 have HR0:=Aside0.mk hr0
 have HC0:=Aside0.mk hc0
 clear hr0 hc0
 have HB:=Aside0.mk (Below.refl w.heap.size w)
 have H:((spec_l2Of.f k l0 a1).bind fun bt120=>(if bt120.2.2.2 = true then (some ((([a1]:List ByteArray)),bt120.2.1,bt120.2.2.1)) else ((spec_l2Of.f k l0 (⟨#[42]⟩:ByteArray)).bind fun bt132=>(some ((([a1]:List ByteArray)),bt132.2.1,bt132.2.2.1))))) = some (r1,r2,r3):=h
 clear h
 replace H:=Option.bind_eq_some_iff.mp H
 obtain ⟨⟨t120,t123,t126,t127⟩,A30,H⟩:=H
 replace H:(if t127 = true then (some ((([a1]:List ByteArray)),t123,t126)) else ((spec_l2Of.f k l0 (⟨#[42]⟩:ByteArray)).bind fun bt132=>(some ((([a1]:List ByteArray)),bt132.2.1,bt132.2.2.1)))) = some (r1,r2,r3):=H
 have A3:=Aside0.mk A30
 clear A30
 by_cases c4:t127 = true
 ·subst c4
  have H1:(some ((([a1]:List ByteArray)),t123,t126)) = some (r1,r2,r3):=by rw [if_pos rfl] at H;exact H
  clear H
  have H:=H1
  clear H1
  obtain ⟨y129,hy129⟩:∃ y_:List ByteArray,y_ = (([a1]:List ByteArray)):=⟨_,rfl⟩
  replace H:(some (y129,t123,t126)) = some (r1,r2,r3):=by first|(rw [hy129];with_reducible exact H)|(have H2_:=(Option.bind_some _ _).symm.trans H;rw [hy129];with_reducible exact H2_)|(have H2_:=(Option.bind_some _ _).symm.trans H;with_reducible exact H2_)|with_reducible exact H|(rw [hy129];exact H)|exact H
  have Ny129:=Aside0.mk hy129
  clear hy129
  simp only [Option.some.injEq,Prod.mk.injEq] at H
  obtain ⟨rfl,rfl,rfl⟩:=H
  go_enter Try.func14,Try.ntmps14
  go_wp2_with (first|((with_reducible refine gate_dst (N:=4) rfl ?_);refine box_event ?hg (N:=4) ?hd (cs:=#[.slice none 0 0, .slice none 0 0, .int .i64 0]) (t:=30) ?hr ?_;(case hd=>rfl);(case hg=>rfl);(case hr=>first|(go_simp;done)|(go_simp;rfl));intro gb119 hg w5 hbox hb;have n0_:=Aside0.mk (below_step (by repeat (first|(with_reducible first|exact HB.out|apply below_alloc|apply pw_below_drewN|apply below_drew1)|exact HB.out)) hb);have n1_:=Aside0.mk (hbox);have n2_:=Aside0.mk ((by rw [hg];exact (below_size (by repeat (first|(with_reducible first|exact HB.out|apply below_alloc|apply pw_below_drewN|apply below_drew1)|exact HB.out))):w.heap.size ≤ gb119));have n3_:=n2_;clear HB;have HB:=n0_;have BK119:=n1_;have GW119:=n2_;have GE119:=n3_;clear n0_ n1_ n2_ n3_;clear hb hbox hg)|((with_reducible refine gate_callee (f:=35) rfl ?_);refine goesL_ (some 10) rfl rfl Try.func35 (by kernel_rfl) rfl #[.slice A0 l0.length c0, .string a1] rfl (by (try simp only [List.map_toArray,List.map_cons,List.map_nil]);first|done|rfl|(simp only [List.length_drop,List.length_take];rfl)) ?_;(with_reducible refine (spec_l2Of.calls k _ _ l0 a1 t120 t123 t126 true _ ?side1 ?side2 A3.out).mono ?_);(case side1=>repeat (first|exact (Kd.C_below HR0.out HB.out)|(with_reducible refine Kd.C_alloc ?_ _)|(with_reducible refine Kd.C_drewN ?_ _)|(with_reducible refine Kd.C_drew ?_)));(case side2=>exact HC0.out);rintro e w6 ⟨v121,v124,rfl,ho0,ho1,hb⟩;refine ⟨_,rfl,?_⟩;have n0_:=Aside0.mk (Kd.R_lower ho0 (below_size (by repeat (first|(with_reducible first|exact HB.out|apply below_alloc|apply pw_below_drewN|apply below_drew1|refine below_set ?_ GE119.out)|exact HB.out))));have n1_:=Aside0.mk (Kd.R_lower ho1 (below_size (by repeat (first|(with_reducible first|exact HB.out|apply below_alloc|apply pw_below_drewN|apply below_drew1|refine below_set ?_ GE119.out)|exact HB.out))));have n2_:=Aside0.mk (blk_below (g:=gb119) (o:=.cells #[.slice none 0 0, .slice none 0 0, .int .i64 0] 30 (0,0)) (by (with_reducible repeat (first|refine blk_drewN ?_ _|refine blk_drew ?_|refine blk_alloc ?_ _));exact BK119.out) hb);have n3_:=Aside0.mk (below_step (by repeat (first|(with_reducible first|exact HB.out|apply below_alloc|apply pw_below_drewN|apply below_drew1|refine below_set ?_ GE119.out)|exact HB.out)) hb);clear BK119;clear HB;have HO122:=n0_;have HO125:=n1_;have BK119:=n2_;have HB:=n3_;clear n0_ n1_ n2_ n3_;(try clear hb);(try clear hb2);(try clear hk);(try clear hi);(try clear ho0);(try clear ho1))|((with_reducible refine gate_dst (N:=5) rfl ?_);refine box_event ?hg (N:=5) ?hd (cs:=#[.slice none 0 0, .slice none 0 0, .int .i64 0]) (t:=30) ?hr ?_;(case hd=>rfl);(case hg=>rfl);(case hr=>first|(go_simp;done)|(go_simp;rfl));intro gb128 hg w7 hbox hb;have n0_:=Aside0.mk (Kd.R_below (by (with_reducible repeat (first|apply Kd.R_alloc|apply Kd.R_drewN|apply Kd.R_drew));exact HO122.out) hb);have n1_:=Aside0.mk (Kd.R_below (by (with_reducible repeat (first|apply Kd.R_alloc|apply Kd.R_drewN|apply Kd.R_drew));exact HO125.out) hb);have n2_:=Aside0.mk (blk_below (g:=gb119) (o:=.cells #[.slice none 0 0, .slice none 0 0, .int .i64 0] 30 (0,0)) (by (with_reducible repeat (first|refine blk_drewN ?_ _|refine blk_drew ?_|refine blk_alloc ?_ _));exact BK119.out) hb);have n3_:=Aside0.mk (below_step (by repeat (first|(with_reducible first|exact HB.out|apply below_alloc|apply pw_below_drewN|apply below_drew1|refine below_set ?_ GE119.out)|exact HB.out)) hb);have n4_:=Aside0.mk (hbox);have n5_:=Aside0.mk ((by rw [hg];exact (below_size (by repeat (first|(with_reducible first|exact HB.out|apply below_alloc|apply pw_below_drewN|apply below_drew1|refine below_set ?_ GE119.out)|exact HB.out))):w.heap.size ≤ gb128));have n6_:=n5_;have n7_:=Aside0.mk ((by rw [hg];exact Nat.ne_of_lt (blk_lt (g:=gb119) (o:=.cells #[.slice none 0 0, .slice none 0 0, .int .i64 0] 30 (0,0)) (by (with_reducible repeat (first|refine blk_drewN ?_ _|refine blk_drew ?_|refine blk_alloc ?_ _));exact BK119.out)):gb119 ≠ gb128));have n8_:=Aside0.mk ((by rw [hg];exact Nat.ne_of_gt (blk_lt (g:=gb119) (o:=.cells #[.slice none 0 0, .slice none 0 0, .int .i64 0] 30 (0,0)) (by (with_reducible repeat (first|refine blk_drewN ?_ _|refine blk_drew ?_|refine blk_alloc ?_ _));exact BK119.out)):gb128 ≠ gb119));clear HO122;clear HO125;clear BK119;clear HB;have HO122:=n0_;have HO125:=n1_;have BK119:=n2_;have HB:=n3_;have BK128:=n4_;have GW128:=n5_;have GE128:=n6_;have NB119_128:=n7_;have NB128_119:=n8_;clear n0_ n1_ n2_ n3_ n4_ n5_ n6_ n7_ n8_;clear hb hbox hg;obtain ⟨Ao8,co8,eo8⟩:=Kd.R_slice HO122.out;subst eo8;have hnb9:=NB128_119.out;have hnc9:=NB119_128.out;have hcz10_0:w7.cell? ⟨gb128,0,none⟩ = some (.slice none 0 0):=(blk_cell BK128.out 0).trans rfl;have hcz10_1:w7.cell? ⟨gb128,1,none⟩ = some (.slice none 0 0):=(blk_cell BK128.out 1).trans rfl;have hcz10_2:w7.cell? ⟨gb128,2,none⟩ = some (.int .i64 0):=(blk_cell BK128.out 2).trans rfl;have hfz10_0:=blk_frozen BK128.out 0;have hfz10_1:=blk_frozen BK128.out 1;have hfz10_2:=blk_frozen BK128.out 2;obtain ⟨Ao11,co11,eo11⟩:=Kd.R_slice HO125.out;subst eo11)|((with_reducible refine gate_dst (N:=21) rfl ?_);refine Kd.R_lit Kd.string _ 9 ?hg (N:=21) ?hd (xs:=([a1]:List ByteArray)) (inner:=[.string a1]) (ok:=fun _=>True) (okp:=fun _=>True) ?hr ?hp (fun _ hk=>hk) trivial (Below.refl _ _) (Nat.le_refl _) (by simp) ?_;(case hd=>rfl);(case hg=>rfl);(case hr=>first|(go_simp;done)|(go_simp;rfl));(case hp=>exact (Reps.one (show Kd.M Kd.string _ _ _ a1 [.string a1] from rfl) (Reps.none _ _)));intro v130 w12 ho13 hb hg_ hnew_;clear hg_ hnew_;(first|rw [← Ny129.out] at ho13|(simp only [Int.reduceToNat] at ho13;rw [← Ny129.out] at ho13));have n0_:=Aside0.mk (Kd.R_elder' (by (with_reducible repeat (first|apply Kd.R_alloc|apply Kd.R_drewN|apply Kd.R_drew));exact (Kd.R_mono (Kd.R_far (p:=⟨gb128,2,none⟩) (Kd.R_far (p:=⟨gb128,1,none⟩) (Kd.R_far (p:=⟨gb128,0,none⟩) (Kd.R_types HO122.out BK128.out (by decide)) (fun _ hk=>hk.2) (.slice Ao8 t120.length co8)) (fun _ hk=>hk.2) (.slice Ao11 t123.length co11)) (fun _ hk=>hk.2) (.int .i64 t126)) (fun _ h_=>h_.1))) (Kd.R_base ho13) hb);have n1_:=Aside0.mk (Kd.R_below (by (with_reducible repeat (first|apply Kd.R_alloc|apply Kd.R_drewN|apply Kd.R_drew));exact (Kd.R_mono (Kd.R_far (p:=⟨gb128,2,none⟩) (Kd.R_far (p:=⟨gb128,1,none⟩) (Kd.R_far (p:=⟨gb128,0,none⟩) (Kd.R_types HO125.out BK128.out (by decide)) (fun _ hk=>hk.2) (.slice Ao8 t120.length co8)) (fun _ hk=>hk.2) (.slice Ao11 t123.length co11)) (fun _ hk=>hk.2) (.int .i64 t126)) (fun _ h_=>h_.1))) hb);have n2_:=Aside0.mk (Kd.R_lower (Kd.R_new' ho13 (Kd.R_lt (by (with_reducible repeat (first|apply Kd.R_alloc|apply Kd.R_drewN|apply Kd.R_drew));exact (Kd.R_mono (Kd.R_far (p:=⟨gb128,2,none⟩) (Kd.R_far (p:=⟨gb128,1,none⟩) (Kd.R_far (p:=⟨gb128,0,none⟩) (Kd.R_types HO122.out BK128.out (by decide)) (fun _ hk=>hk.2) (.slice Ao8 t120.length co8)) (fun _ hk=>hk.2) (.slice Ao11 t123.length co11)) (fun _ hk=>hk.2) (.int .i64 t126)) (fun _ h_=>h_.1))))) (below_size (by repeat (first|(with_reducible first|exact HB.out|apply below_alloc|apply pw_below_drewN|apply below_drew1|refine below_set ?_ GE119.out|refine below_set ?_ GE128.out)|exact HB.out))));have n3_:=Aside0.mk (blk_below (g:=gb119) (o:=.cells #[.slice none 0 0, .slice none 0 0, .int .i64 0] 30 (0,0)) (by (with_reducible repeat (first|refine blk_drewN ?_ _|refine blk_drew ?_|refine blk_alloc ?_ _));refine blk_far ?_ NB119_128.out _;(with_reducible repeat (first|refine blk_drewN ?_ _|refine blk_drew ?_|refine blk_alloc ?_ _));refine blk_far ?_ NB119_128.out _;(with_reducible repeat (first|refine blk_drewN ?_ _|refine blk_drew ?_|refine blk_alloc ?_ _));refine blk_far ?_ NB119_128.out _;(with_reducible repeat (first|refine blk_drewN ?_ _|refine blk_drew ?_|refine blk_alloc ?_ _));exact BK119.out) hb);have n4_:=Aside0.mk (blk_below (g:=gb128) (o:=.cells #[.slice Ao8 t120.length co8, .slice Ao11 t123.length co11, .int .i64 t126] 30 (0,0)) (by (with_reducible repeat (first|refine blk_drewN ?_ _|refine blk_drew ?_|refine blk_alloc ?_ _));refine blk_put (cs:=#[.slice Ao8 t120.length co8, .slice Ao11 t123.length co11, .int .i64 0]) ?_ 2 _ rfl;(with_reducible repeat (first|refine blk_drewN ?_ _|refine blk_drew ?_|refine blk_alloc ?_ _));refine blk_put (cs:=#[.slice Ao8 t120.length co8, .slice none 0 0, .int .i64 0]) ?_ 1 _ rfl;(with_reducible repeat (first|refine blk_drewN ?_ _|refine blk_drew ?_|refine blk_alloc ?_ _));refine blk_put (cs:=#[.slice none 0 0, .slice none 0 0, .int .i64 0]) ?_ 0 _ rfl;(with_reducible repeat (first|refine blk_drewN ?_ _|refine blk_drew ?_|refine blk_alloc ?_ _));exact BK128.out) hb);have n5_:=Aside0.mk (below_step (by repeat (first|(with_reducible first|exact HB.out|apply below_alloc|apply pw_below_drewN|apply below_drew1|refine below_set ?_ GE119.out|refine below_set ?_ GE128.out)|exact HB.out)) hb);clear HO122;clear HO125;clear BK119;clear BK128;clear HB;have HO122:=n0_;have HO125:=n1_;have HO131:=n2_;have BK119:=n3_;have BK128:=n4_;have HB:=n5_;clear n0_ n1_ n2_ n3_ n4_ n5_;clear hb ho13;obtain ⟨Ao14,co14,eo14⟩:=Kd.R_slice HO131.out;subst eo14;have hcz15_0:w12.cell? ⟨gb128,0,none⟩ = some (.slice Ao8 t120.length co8):=(blk_cell BK128.out 0).trans rfl;have hcz15_1:w12.cell? ⟨gb128,1,none⟩ = some (.slice Ao11 t123.length co11):=(blk_cell BK128.out 1).trans rfl;have hcz15_2:w12.cell? ⟨gb128,2,none⟩ = some (.int .i64 t126):=(blk_cell BK128.out 2).trans rfl;have hfz15_0:=blk_frozen BK128.out 0;have hfz15_1:=blk_frozen BK128.out 1;have hfz15_2:=blk_frozen BK128.out 2;have hcz16_0:w12.cell? ⟨gb119,0,none⟩ = some (.slice none 0 0):=(blk_cell BK119.out 0).trans rfl;have hcz16_1:w12.cell? ⟨gb119,1,none⟩ = some (.slice none 0 0):=(blk_cell BK119.out 1).trans rfl;have hcz16_2:w12.cell? ⟨gb119,2,none⟩ = some (.int .i64 0):=(blk_cell BK119.out 2).trans rfl;have hfz16_0:=blk_frozen BK119.out 0;have hfz16_1:=blk_frozen BK119.out 1;have hfz16_2:=blk_frozen BK119.out 2))
  refine bodyPost_ret (results_cell_row rfl _ _ gb119 30 #[.slice Ao14 y129.length co14, .slice Ao11 t123.length co11, .int .i64 t126] (0,0) _ rfl (by (with_reducible repeat (first|refine blk_drewN ?_ _|refine blk_drew ?_|refine blk_alloc ?_ _));refine blk_put (cs:=#[.slice Ao14 y129.length co14, .slice Ao11 t123.length co11, .int .i64 0]) ?_ 2 _ rfl;(with_reducible repeat (first|refine blk_drewN ?_ _|refine blk_drew ?_|refine blk_alloc ?_ _));refine blk_put (cs:=#[.slice Ao14 y129.length co14, .slice none 0 0, .int .i64 0]) ?_ 1 _ rfl;(with_reducible repeat (first|refine blk_drewN ?_ _|refine blk_drew ?_|refine blk_alloc ?_ _));refine blk_put (cs:=#[.slice none 0 0, .slice none 0 0, .int .i64 0]) ?_ 0 _ rfl;(with_reducible repeat (first|refine blk_drewN ?_ _|refine blk_drew ?_|refine blk_alloc ?_ _));refine blk_far ?_ NB119_128.out _;(with_reducible repeat (first|refine blk_drewN ?_ _|refine blk_drew ?_|refine blk_alloc ?_ _));exact BK119.out) Try.underlying30 rfl (by kernel_rfl)) rfl ?_
  exact ⟨_,_,by first|rfl|(simp <;> rfl)|(simp [*] <;> rfl),by (with_reducible repeat (first|apply Kd.R_alloc|apply Kd.R_drewN|apply Kd.R_drew));exact Kd.R_mono (Kd.R_far (p:=⟨gb119,2,none⟩) (Kd.R_far (p:=⟨gb119,1,none⟩) (Kd.R_far (p:=⟨gb119,0,none⟩) (Kd.R_far (p:=⟨gb128,0,none⟩) (Kd.R_types (Kd.R_types HO131.out BK128.out (by decide)) BK119.out (by decide)) (fun _ hk=>hk.1.2) (.slice Ao14 y129.length co14)) (fun _ hk=>hk.2) (.slice Ao14 y129.length co14)) (fun _ hk=>hk.2) (.slice Ao11 t123.length co11)) (fun _ hk=>hk.2) (.int .i64 t126)) (fun _ hk=>trivial),by (with_reducible repeat (first|apply Kd.R_alloc|apply Kd.R_drewN|apply Kd.R_drew));exact Kd.R_mono (Kd.R_far (p:=⟨gb119,2,none⟩) (Kd.R_far (p:=⟨gb119,1,none⟩) (Kd.R_far (p:=⟨gb119,0,none⟩) (Kd.R_far (p:=⟨gb128,0,none⟩) (Kd.R_types (Kd.R_types HO125.out BK128.out (by decide)) BK119.out (by decide)) (fun _ hk=>hk.1.2) (.slice Ao14 y129.length co14)) (fun _ hk=>hk.2) (.slice Ao14 y129.length co14)) (fun _ hk=>hk.2) (.slice Ao11 t123.length co11)) (fun _ hk=>hk.2) (.int .i64 t126)) (fun _ hk=>trivial),by repeat (first|(with_reducible first|exact HB.out|apply below_alloc|apply pw_below_drewN|apply below_drew1|refine below_set ?_ GE119.out|refine below_set ?_ GE128.out)|exact HB.out)⟩
 ·replace c4:=Bool.eq_false_iff.mpr c4
  subst c4
  have H1:((spec_l2Of.f k l0 (⟨#[42]⟩:ByteArray)).bind fun bt132=>(some ((([a1]:List ByteArray)),bt132.2.1,bt132.2.2.1))) = some (r1,r2,r3):=by rw [if_neg (show ¬ (false = true) by decide)] at H;exact H
  clear H
  have H:=H1
  clear H1
  replace H:=Option.bind_eq_some_iff.mp H
  obtain ⟨⟨t132,t135,t138,t139⟩,A170,H⟩:=H
  replace H:(some ((([a1]:List ByteArray)),t135,t138)) = some (r1,r2,r3):=H
  have A17:=Aside0.mk A170
  clear A170
  obtain ⟨y140,hy140⟩:∃ y_:List ByteArray,y_ = (([a1]:List ByteArray)):=⟨_,rfl⟩
  replace H:(some (y140,t135,t138)) = some (r1,r2,r3):=by first|(rw [hy140];with_reducible exact H)|(have H2_:=(Option.bind_some _ _).symm.trans H;rw [hy140];with_reducible exact H2_)|(have H2_:=(Option.bind_some _ _).symm.trans H;with_reducible exact H2_)|with_reducible exact H|(rw [hy140];exact H)|exact H
  have Ny140:=Aside0.mk hy140
  clear hy140
  simp only [Option.some.injEq,Prod.mk.injEq] at H
  obtain ⟨rfl,rfl,rfl⟩:=H
  go_enter Try.func14,Try.ntmps14
  go_wp2_with (first|((with_reducible refine gate_dst (N:=4) rfl ?_);refine box_event ?hg (N:=4) ?hd (cs:=#[.slice none 0 0, .slice none 0 0, .int .i64 0]) (t:=30) ?hr ?_;(case hd=>rfl);(case hg=>rfl);(case hr=>first|(go_simp;done)|(go_simp;rfl));intro gb119 hg w18 hbox hb;have n0_:=Aside0.mk (below_step (by repeat (first|(with_reducible first|exact HB.out|apply below_alloc|apply pw_below_drewN|apply below_drew1)|exact HB.out)) hb);have n1_:=Aside0.mk (hbox);have n2_:=Aside0.mk ((by rw [hg];exact (below_size (by repeat (first|(with_reducible first|exact HB.out|apply below_alloc|apply pw_below_drewN|apply below_drew1)|exact HB.out))):w.heap.size ≤ gb119));have n3_:=n2_;clear HB;have HB:=n0_;have BK119:=n1_;have GW119:=n2_;have GE119:=n3_;clear n0_ n1_ n2_ n3_;clear hb hbox hg)|((with_reducible refine gate_callee (f:=35) rfl ?_);refine goesL_ (some 10) rfl rfl Try.func35 (by kernel_rfl) rfl #[.slice A0 l0.length c0, .string a1] rfl (by (try simp only [List.map_toArray,List.map_cons,List.map_nil]);first|done|rfl|(simp only [List.length_drop,List.length_take];rfl)) ?_;(with_reducible refine (spec_l2Of.calls k _ _ l0 a1 t120 t123 t126 false _ ?side1 ?side2 A3.out).mono ?_);(case side1=>repeat (first|exact (Kd.C_below HR0.out HB.out)|(with_reducible refine Kd.C_alloc ?_ _)|(with_reducible refine Kd.C_drewN ?_ _)|(with_reducible refine Kd.C_drew ?_)));(case side2=>exact HC0.out);rintro e w19 ⟨v121,v124,rfl,ho0,ho1,hb⟩;refine ⟨_,rfl,?_⟩;have n0_:=Aside0.mk (Kd.R_lower ho0 (below_size (by repeat (first|(with_reducible first|exact HB.out|apply below_alloc|apply pw_below_drewN|apply below_drew1|refine below_set ?_ GE119.out)|exact HB.out))));have n1_:=Aside0.mk (Kd.R_lower ho1 (below_size (by repeat (first|(with_reducible first|exact HB.out|apply below_alloc|apply pw_below_drewN|apply below_drew1|refine below_set ?_ GE119.out)|exact HB.out))));have n2_:=Aside0.mk (blk_below (g:=gb119) (o:=.cells #[.slice none 0 0, .slice none 0 0, .int .i64 0] 30 (0,0)) (by (with_reducible repeat (first|refine blk_drewN ?_ _|refine blk_drew ?_|refine blk_alloc ?_ _));exact BK119.out) hb);have n3_:=Aside0.mk (below_step (by repeat (first|(with_reducible first|exact HB.out|apply below_alloc|apply pw_below_drewN|apply below_drew1|refine below_set ?_ GE119.out)|exact HB.out)) hb);clear BK119;clear HB;have HO122:=n0_;have HO125:=n1_;have BK119:=n2_;have HB:=n3_;clear n0_ n1_ n2_ n3_;(try clear hb);(try clear hb2);(try clear hk);(try clear hi);(try clear ho0);(try clear ho1))|((with_reducible refine gate_dst (N:=5) rfl ?_);refine box_event ?hg (N:=5) ?hd (cs:=#[.slice none 0 0, .slice none 0 0, .int .i64 0]) (t:=30) ?hr ?_;(case hd=>rfl);(case hg=>rfl);(case hr=>first|(go_simp;done)|(go_simp;rfl));intro gb128 hg w20 hbox hb;have n0_:=Aside0.mk (Kd.R_below (by (with_reducible repeat (first|apply Kd.R_alloc|apply Kd.R_drewN|apply Kd.R_drew));exact HO122.out) hb);have n1_:=Aside0.mk (Kd.R_below (by (with_reducible repeat (first|apply Kd.R_alloc|apply Kd.R_drewN|apply Kd.R_drew));exact HO125.out) hb);have n2_:=Aside0.mk (blk_below (g:=gb119) (o:=.cells #[.slice none 0 0, .slice none 0 0, .int .i64 0] 30 (0,0)) (by (with_reducible repeat (first|refine blk_drewN ?_ _|refine blk_drew ?_|refine blk_alloc ?_ _));exact BK119.out) hb);have n3_:=Aside0.mk (below_step (by repeat (first|(with_reducible first|exact HB.out|apply below_alloc|apply pw_below_drewN|apply below_drew1|refine below_set ?_ GE119.out)|exact HB.out)) hb);have n4_:=Aside0.mk (hbox);have n5_:=Aside0.mk ((by rw [hg];exact (below_size (by repeat (first|(with_reducible first|exact HB.out|apply below_alloc|apply pw_below_drewN|apply below_drew1|refine below_set ?_ GE119.out)|exact HB.out))):w.heap.size ≤ gb128));have n6_:=n5_;have n7_:=Aside0.mk ((by rw [hg];exact Nat.ne_of_lt (blk_lt (g:=gb119) (o:=.cells #[.slice none 0 0, .slice none 0 0, .int .i64 0] 30 (0,0)) (by (with_reducible repeat (first|refine blk_drewN ?_ _|refine blk_drew ?_|refine blk_alloc ?_ _));exact BK119.out)):gb119 ≠ gb128));have n8_:=Aside0.mk ((by rw [hg];exact Nat.ne_of_gt (blk_lt (g:=gb119) (o:=.cells #[.slice none 0 0, .slice none 0 0, .int .i64 0] 30 (0,0)) (by (with_reducible repeat (first|refine blk_drewN ?_ _|refine blk_drew ?_|refine blk_alloc ?_ _));exact BK119.out)):gb128 ≠ gb119));clear HO122;clear HO125;clear BK119;clear HB;have HO122:=n0_;have HO125:=n1_;have BK119:=n2_;have HB:=n3_;have BK128:=n4_;have GW128:=n5_;have GE128:=n6_;have NB119_128:=n7_;have NB128_119:=n8_;clear n0_ n1_ n2_ n3_ n4_ n5_ n6_ n7_ n8_;clear hb hbox hg;obtain ⟨Ao21,co21,eo21⟩:=Kd.R_slice HO122.out;subst eo21;have hnb22:=NB128_119.out;have hnc22:=NB119_128.out;have hcz23_0:w20.cell? ⟨gb128,0,none⟩ = some (.slice none 0 0):=(blk_cell BK128.out 0).trans rfl;have hcz23_1:w20.cell? ⟨gb128,1,none⟩ = some (.slice none 0 0):=(blk_cell BK128.out 1).trans rfl;have hcz23_2:w20.cell? ⟨gb128,2,none⟩ = some (.int .i64 0):=(blk_cell BK128.out 2).trans rfl;have hfz23_0:=blk_frozen BK128.out 0;have hfz23_1:=blk_frozen BK128.out 1;have hfz23_2:=blk_frozen BK128.out 2;obtain ⟨Ao24,co24,eo24⟩:=Kd.R_slice HO125.out;subst eo24)|((with_reducible refine gate_callee (f:=35) rfl ?_);refine goesL_ (some 17) rfl rfl Try.func35 (by kernel_rfl) rfl #[.slice A0 l0.length c0, .string (⟨#[42]⟩:ByteArray)] rfl (by (try simp only [List.map_toArray,List.map_cons,List.map_nil]);first|done|rfl|(simp only [List.length_drop,List.length_take];rfl)) ?_;(with_reducible refine (spec_l2Of.calls k _ _ l0 (⟨#[42]⟩:ByteArray) t132 t135 t138 t139 _ ?side1 ?side2 A17.out).mono ?_);(case side1=>exact Kd.C_below HR0.out (by repeat (first|(with_reducible first|exact HB.out|apply below_alloc|apply pw_below_drewN|apply below_drew1|refine below_set ?_ GE119.out|refine below_set ?_ GE128.out)|exact HB.out)));(case side2=>exact HC0.out);rintro e w25 ⟨v133,v136,rfl,ho0,ho1,hb⟩;refine ⟨_,rfl,?_⟩;have n0_:=Aside0.mk (Kd.R_elder' (by (with_reducible repeat (first|apply Kd.R_alloc|apply Kd.R_drewN|apply Kd.R_drew));exact (Kd.R_mono (Kd.R_far (p:=⟨gb128,2,none⟩) (Kd.R_far (p:=⟨gb128,1,none⟩) (Kd.R_far (p:=⟨gb128,0,none⟩) (Kd.R_types HO122.out BK128.out (by decide)) (fun _ hk=>hk.2) (.slice Ao21 t120.length co21)) (fun _ hk=>hk.2) (.slice Ao24 t123.length co24)) (fun _ hk=>hk.2) (.int .i64 t126)) (fun _ h_=>h_.1))) (Kd.R_base ho0) hb);have n1_:=Aside0.mk (Kd.R_elder' (by (with_reducible repeat (first|apply Kd.R_alloc|apply Kd.R_drewN|apply Kd.R_drew));exact (Kd.R_mono (Kd.R_far (p:=⟨gb128,2,none⟩) (Kd.R_far (p:=⟨gb128,1,none⟩) (Kd.R_far (p:=⟨gb128,0,none⟩) (Kd.R_types HO125.out BK128.out (by decide)) (fun _ hk=>hk.2) (.slice Ao21 t120.length co21)) (fun _ hk=>hk.2) (.slice Ao24 t123.length co24)) (fun _ hk=>hk.2) (.int .i64 t126)) (fun _ h_=>h_.1))) (Kd.R_base ho1) hb);have n2_:=Aside0.mk (Kd.R_lower (Kd.R_new' ho0 (Kd.R_lt (by (with_reducible repeat (first|apply Kd.R_alloc|apply Kd.R_drewN|apply Kd.R_drew));exact (Kd.R_mono (Kd.R_far (p:=⟨gb128,2,none⟩) (Kd.R_far (p:=⟨gb128,1,none⟩) (Kd.R_far (p:=⟨gb128,0,none⟩) (Kd.R_types HO122.out BK128.out (by decide)) (fun _ hk=>hk.2) (.slice Ao21 t120.length co21)) (fun _ hk=>hk.2) (.slice Ao24 t123.length co24)) (fun _ hk=>hk.2) (.int .i64 t126)) (fun _ h_=>h_.1))))) (below_size (by repeat (first|(with_reducible first|exact HB.out|apply below_alloc|apply pw_below_drewN|apply below_drew1|refine below_set ?_ GE119.out|refine below_set ?_ GE128.out)|exact HB.out))));have n3_:=Aside0.mk (Kd.R_lower (Kd.R_new' ho1 (Kd.R_lt (by (with_reducible repeat (first|apply Kd.R_alloc|apply Kd.R_drewN|apply Kd.R_drew));exact (Kd.R_mono (Kd.R_far (p:=⟨gb128,2,none⟩) (Kd.R_far (p:=⟨gb128,1,none⟩) (Kd.R_far (p:=⟨gb128,0,none⟩) (Kd.R_types HO125.out BK128.out (by decide)) (fun _ hk=>hk.2) (.slice Ao21 t120.length co21)) (fun _ hk=>hk.2) (.slice Ao24 t123.length co24)) (fun _ hk=>hk.2) (.int .i64 t126)) (fun _ h_=>h_.1))))) (below_size (by repeat (first|(with_reducible first|exact HB.out|apply below_alloc|apply pw_below_drewN|apply below_drew1|refine below_set ?_ GE119.out|refine below_set ?_ GE128.out)|exact HB.out))));have n4_:=Aside0.mk (blk_below (g:=gb119) (o:=.cells #[.slice none 0 0, .slice none 0 0, .int .i64 0] 30 (0,0)) (by (with_reducible repeat (first|refine blk_drewN ?_ _|refine blk_drew ?_|refine blk_alloc ?_ _));refine blk_far ?_ NB119_128.out _;(with_reducible repeat (first|refine blk_drewN ?_ _|refine blk_drew ?_|refine blk_alloc ?_ _));refine blk_far ?_ NB119_128.out _;(with_reducible repeat (first|refine blk_drewN ?_ _|refine blk_drew ?_|refine blk_alloc ?_ _));refine blk_far ?_ NB119_128.out _;(with_reducible repeat (first|refine blk_drewN ?_ _|refine blk_drew ?_|refine blk_alloc ?_ _));exact BK119.out) hb);have n5_:=Aside0.mk (blk_below (g:=gb128) (o:=.cells #[.slice Ao21 t120.length co21, .slice Ao24 t123.length co24, .int .i64 t126] 30 (0,0)) (by (with_reducible repeat (first|refine blk_drewN ?_ _|refine blk_drew ?_|refine blk_alloc ?_ _));refine blk_put (cs:=#[.slice Ao21 t120.length co21, .slice Ao24 t123.length co24, .int .i64 0]) ?_ 2 _ rfl;(with_reducible repeat (first|refine blk_drewN ?_ _|refine blk_drew ?_|refine blk_alloc ?_ _));refine blk_put (cs:=#[.slice Ao21 t120.length co21, .slice none 0 0, .int .i64 0]) ?_ 1 _ rfl;(with_reducible repeat (first|refine blk_drewN ?_ _|refine blk_drew ?_|refine blk_alloc ?_ _));refine blk_put (cs:=#[.slice none 0 0, .slice none 0 0, .int .i64 0]) ?_ 0 _ rfl;(with_reducible repeat (first|refine blk_drewN ?_ _|refine blk_drew ?_|refine blk_alloc ?_ _));exact BK128.out) hb);have n6_:=Aside0.mk (below_step (by repeat (first|(with_reducible first|exact HB.out|apply below_alloc|apply pw_below_drewN|apply below_drew1|refine below_set ?_ GE119.out|refine below_set ?_ GE128.out)|exact HB.out)) hb);clear HO122;clear HO125;clear BK119;clear BK128;clear HB;have HO122:=n0_;have HO125:=n1_;have HO134:=n2_;have HO137:=n3_;have BK119:=n4_;have BK128:=n5_;have HB:=n6_;clear n0_ n1_ n2_ n3_ n4_ n5_ n6_;(try clear hb);(try clear hb2);(try clear hk);(try clear hi);(try clear ho0);(try clear ho1);obtain ⟨Ao26,co26,eo26⟩:=Kd.R_slice HO134.out;subst eo26;have hcz27_0:w25.cell? ⟨gb128,0,none⟩ = some (.slice Ao21 t120.length co21):=(blk_cell BK128.out 0).trans rfl;have hcz27_1:w25.cell? ⟨gb128,1,none⟩ = some (.slice Ao24 t123.length co24):=(blk_cell BK128.out 1).trans rfl;have hcz27_2:w25.cell? ⟨gb128,2,none⟩ = some (.int .i64 t126):=(blk_cell BK128.out 2).trans rfl;have hfz27_0:=blk_frozen BK128.out 0;have hfz27_1:=blk_frozen BK128.out 1;have hfz27_2:=blk_frozen BK128.out 2;obtain ⟨Ao28,co28,eo28⟩:=Kd.R_slice HO137.out;subst eo28)|((with_reducible refine gate_dst (N:=21) rfl ?_);refine Kd.R_lit Kd.string _ 9 ?hg (N:=21) ?hd (xs:=([a1]:List ByteArray)) (inner:=[.string a1]) (ok:=fun _=>True) (okp:=fun _=>True) ?hr ?hp (fun _ hk=>hk) trivial (Below.refl _ _) (Nat.le_refl _) (by simp) ?_;(case hd=>rfl);(case hg=>rfl);(case hr=>first|(go_simp;done)|(go_simp;rfl));(case hp=>exact (Reps.one (show Kd.M Kd.string _ _ _ a1 [.string a1] from rfl) (Reps.none _ _)));intro v141 w29 ho30 hb hg_ hnew_;clear hg_ hnew_;(first|rw [← Ny140.out] at ho30|(simp only [Int.reduceToNat] at ho30;rw [← Ny140.out] at ho30));have n0_:=Aside0.mk (Kd.R_elder' (by (with_reducible repeat (first|apply Kd.R_alloc|apply Kd.R_drewN|apply Kd.R_drew));exact (Kd.R_mono (Kd.R_far (p:=⟨gb128,2,none⟩) (Kd.R_far (p:=⟨gb128,1,none⟩) (Kd.R_far (p:=⟨gb128,0,none⟩) (Kd.R_types HO122.out BK128.out (by decide)) (fun _ hk=>hk.2) (.slice Ao26 t132.length co26)) (fun _ hk=>hk.2) (.slice Ao28 t135.length co28)) (fun _ hk=>hk.2) (.int .i64 t138)) (fun _ h_=>h_.1))) (Kd.R_base ho30) hb);have n1_:=Aside0.mk (Kd.R_below (by (with_reducible repeat (first|apply Kd.R_alloc|apply Kd.R_drewN|apply Kd.R_drew));exact (Kd.R_mono (Kd.R_far (p:=⟨gb128,2,none⟩) (Kd.R_far (p:=⟨gb128,1,none⟩) (Kd.R_far (p:=⟨gb128,0,none⟩) (Kd.R_types HO125.out BK128.out (by decide)) (fun _ hk=>hk.2) (.slice Ao26 t132.length co26)) (fun _ hk=>hk.2) (.slice Ao28 t135.length co28)) (fun _ hk=>hk.2) (.int .i64 t138)) (fun _ h_=>h_.1))) hb);have n2_:=Aside0.mk (Kd.R_elder' (by (with_reducible repeat (first|apply Kd.R_alloc|apply Kd.R_drewN|apply Kd.R_drew));exact (Kd.R_mono (Kd.R_far (p:=⟨gb128,2,none⟩) (Kd.R_far (p:=⟨gb128,1,none⟩) (Kd.R_far (p:=⟨gb128,0,none⟩) (Kd.R_types HO134.out BK128.out (by decide)) (fun _ hk=>hk.2) (.slice Ao26 t132.length co26)) (fun _ hk=>hk.2) (.slice Ao28 t135.length co28)) (fun _ hk=>hk.2) (.int .i64 t138)) (fun _ h_=>h_.1))) (Kd.R_base ho30) hb);have n3_:=Aside0.mk (Kd.R_below (by (with_reducible repeat (first|apply Kd.R_alloc|apply Kd.R_drewN|apply Kd.R_drew));exact (Kd.R_mono (Kd.R_far (p:=⟨gb128,2,none⟩) (Kd.R_far (p:=⟨gb128,1,none⟩) (Kd.R_far (p:=⟨gb128,0,none⟩) (Kd.R_types HO137.out BK128.out (by decide)) (fun _ hk=>hk.2) (.slice Ao26 t132.length co26)) (fun _ hk=>hk.2) (.slice Ao28 t135.length co28)) (fun _ hk=>hk.2) (.int .i64 t138)) (fun _ h_=>h_.1))) hb);have n4_:=Aside0.mk (Kd.R_lower (Kd.R_new' (Kd.R_new' ho30 (Kd.R_lt (by (with_reducible repeat (first|apply Kd.R_alloc|apply Kd.R_drewN|apply Kd.R_drew));exact (Kd.R_mono (Kd.R_far (p:=⟨gb128,2,none⟩) (Kd.R_far (p:=⟨gb128,1,none⟩) (Kd.R_far (p:=⟨gb128,0,none⟩) (Kd.R_types HO122.out BK128.out (by decide)) (fun _ hk=>hk.2) (.slice Ao26 t132.length co26)) (fun _ hk=>hk.2) (.slice Ao28 t135.length co28)) (fun _ hk=>hk.2) (.int .i64 t138)) (fun _ h_=>h_.1))))) (Kd.R_lt (by (with_reducible repeat (first|apply Kd.R_alloc|apply Kd.R_drewN|apply Kd.R_drew));exact (Kd.R_mono (Kd.R_far (p:=⟨gb128,2,none⟩) (Kd.R_far (p:=⟨gb128,1,none⟩) (Kd.R_far (p:=⟨gb128,0,none⟩) (Kd.R_types HO134.out BK128.out (by decide)) (fun _ hk=>hk.2) (.slice Ao26 t132.length co26)) (fun _ hk=>hk.2) (.slice Ao28 t135.length co28)) (fun _ hk=>hk.2) (.int .i64 t138)) (fun _ h_=>h_.1))))) (below_size (by repeat (first|(with_reducible first|exact HB.out|apply below_alloc|apply pw_below_drewN|apply below_drew1|refine below_set ?_ GE119.out|refine below_set ?_ GE128.out)|exact HB.out))));have n5_:=Aside0.mk (blk_below (g:=gb119) (o:=.cells #[.slice none 0 0, .slice none 0 0, .int .i64 0] 30 (0,0)) (by (with_reducible repeat (first|refine blk_drewN ?_ _|refine blk_drew ?_|refine blk_alloc ?_ _));refine blk_far ?_ NB119_128.out _;(with_reducible repeat (first|refine blk_drewN ?_ _|refine blk_drew ?_|refine blk_alloc ?_ _));refine blk_far ?_ NB119_128.out _;(with_reducible repeat (first|refine blk_drewN ?_ _|refine blk_drew ?_|refine blk_alloc ?_ _));refine blk_far ?_ NB119_128.out _;(with_reducible repeat (first|refine blk_drewN ?_ _|refine blk_drew ?_|refine blk_alloc ?_ _));exact BK119.out) hb);have n6_:=Aside0.mk (blk_below (g:=gb128) (o:=.cells #[.slice Ao26 t132.length co26, .slice Ao28 t135.length co28, .int .i64 t138] 30 (0,0)) (by (with_reducible repeat (first|refine blk_drewN ?_ _|refine blk_drew ?_|refine blk_alloc ?_ _));refine blk_put (cs:=#[.slice Ao26 t132.length co26, .slice Ao28 t135.length co28, .int .i64 t126]) ?_ 2 _ rfl;(with_reducible repeat (first|refine blk_drewN ?_ _|refine blk_drew ?_|refine blk_alloc ?_ _));refine blk_put (cs:=#[.slice Ao26 t132.length co26, .slice Ao24 t123.length co24, .int .i64 t126]) ?_ 1 _ rfl;(with_reducible repeat (first|refine blk_drewN ?_ _|refine blk_drew ?_|refine blk_alloc ?_ _));refine blk_put (cs:=#[.slice Ao21 t120.length co21, .slice Ao24 t123.length co24, .int .i64 t126]) ?_ 0 _ rfl;(with_reducible repeat (first|refine blk_drewN ?_ _|refine blk_drew ?_|refine blk_alloc ?_ _));exact BK128.out) hb);have n7_:=Aside0.mk (below_step (by repeat (first|(with_reducible first|exact HB.out|apply below_alloc|apply pw_below_drewN|apply below_drew1|refine below_set ?_ GE119.out|refine below_set ?_ GE128.out)|exact HB.out)) hb);clear HO122;clear HO125;clear HO134;clear HO137;clear BK119;clear BK128;clear HB;have HO122:=n0_;have HO125:=n1_;have HO134:=n2_;have HO137:=n3_;have HO142:=n4_;have BK119:=n5_;have BK128:=n6_;have HB:=n7_;clear n0_ n1_ n2_ n3_ n4_ n5_ n6_ n7_;clear hb ho30;obtain ⟨Ao31,co31,eo31⟩:=Kd.R_slice HO142.out;subst eo31;have hcz32_0:w29.cell? ⟨gb128,0,none⟩ = some (.slice Ao26 t132.length co26):=(blk_cell BK128.out 0).trans rfl;have hcz32_1:w29.cell? ⟨gb128,1,none⟩ = some (.slice Ao28 t135.length co28):=(blk_cell BK128.out 1).trans rfl;have hcz32_2:w29.cell? ⟨gb128,2,none⟩ = some (.int .i64 t138):=(blk_cell BK128.out 2).trans rfl;have hfz32_0:=blk_frozen BK128.out 0;have hfz32_1:=blk_frozen BK128.out 1;have hfz32_2:=blk_frozen BK128.out 2;have hcz33_0:w29.cell? ⟨gb119,0,none⟩ = some (.slice none 0 0):=(blk_cell BK119.out 0).trans rfl;have hcz33_1:w29.cell? ⟨gb119,1,none⟩ = some (.slice none 0 0):=(blk_cell BK119.out 1).trans rfl;have hcz33_2:w29.cell? ⟨gb119,2,none⟩ = some (.int .i64 0):=(blk_cell BK119.out 2).trans rfl;have hfz33_0:=blk_frozen BK119.out 0;have hfz33_1:=blk_frozen BK119.out 1;have hfz33_2:=blk_frozen BK119.out 2))
  refine bodyPost_ret (results_cell_row rfl _ _ gb119 30 #[.slice Ao31 y140.length co31, .slice Ao28 t135.length co28, .int .i64 t138] (0,0) _ rfl (by (with_reducible repeat (first|refine blk_drewN ?_ _|refine blk_drew ?_|refine blk_alloc ?_ _));refine blk_put (cs:=#[.slice Ao31 y140.length co31, .slice Ao28 t135.length co28, .int .i64 0]) ?_ 2 _ rfl;(with_reducible repeat (first|refine blk_drewN ?_ _|refine blk_drew ?_|refine blk_alloc ?_ _));refine blk_put (cs:=#[.slice Ao31 y140.length co31, .slice none 0 0, .int .i64 0]) ?_ 1 _ rfl;(with_reducible repeat (first|refine blk_drewN ?_ _|refine blk_drew ?_|refine blk_alloc ?_ _));refine blk_put (cs:=#[.slice none 0 0, .slice none 0 0, .int .i64 0]) ?_ 0 _ rfl;(with_reducible repeat (first|refine blk_drewN ?_ _|refine blk_drew ?_|refine blk_alloc ?_ _));refine blk_far ?_ NB119_128.out _;(with_reducible repeat (first|refine blk_drewN ?_ _|refine blk_drew ?_|refine blk_alloc ?_ _));exact BK119.out) Try.underlying30 rfl (by kernel_rfl)) rfl ?_
  exact ⟨_,_,by first|rfl|(simp <;> rfl)|(simp [*] <;> rfl),by (with_reducible repeat (first|apply Kd.R_alloc|apply Kd.R_drewN|apply Kd.R_drew));exact Kd.R_mono (Kd.R_far (p:=⟨gb119,2,none⟩) (Kd.R_far (p:=⟨gb119,1,none⟩) (Kd.R_far (p:=⟨gb119,0,none⟩) (Kd.R_far (p:=⟨gb128,0,none⟩) (Kd.R_types (Kd.R_types HO142.out BK128.out (by decide)) BK119.out (by decide)) (fun _ hk=>hk.1.2) (.slice Ao31 y140.length co31)) (fun _ hk=>hk.2) (.slice Ao31 y140.length co31)) (fun _ hk=>hk.2) (.slice Ao28 t135.length co28)) (fun _ hk=>hk.2) (.int .i64 t138)) (fun _ hk=>trivial),by (with_reducible repeat (first|apply Kd.R_alloc|apply Kd.R_drewN|apply Kd.R_drew));exact Kd.R_mono (Kd.R_far (p:=⟨gb119,2,none⟩) (Kd.R_far (p:=⟨gb119,1,none⟩) (Kd.R_far (p:=⟨gb119,0,none⟩) (Kd.R_far (p:=⟨gb128,0,none⟩) (Kd.R_types (Kd.R_types HO137.out BK128.out (by decide)) BK119.out (by decide)) (fun _ hk=>hk.1.2) (.slice Ao31 y140.length co31)) (fun _ hk=>hk.2) (.slice Ao31 y140.length co31)) (fun _ hk=>hk.2) (.slice Ao28 t135.length co28)) (fun _ hk=>hk.2) (.int .i64 t138)) (fun _ hk=>trivial),by repeat (first|(with_reducible first|exact HB.out|apply below_alloc|apply pw_below_drewN|apply below_drew1|refine below_set ?_ GE119.out|refine below_set ?_ GE128.out)|exact HB.out)⟩

end Go.Proofs.Ytheakfegchndcaa.P
