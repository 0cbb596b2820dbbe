-- Written by a program of this session (patch_print.py over the kit's print; given texts in wip/given).
-- Cut down by a program of this session (wip/tools/prune.py) to what its claim can name.
import Derived.Test.YtheakfegchndcaaPx0
import Derived.Test.YtheakfegchndcaaPx1
namespace Go.Proofs.Ytheakfegchndcaa.P
open Go.RowKit Go.Proofs.YtheakfegchndcaaW.PrintWords Go.Proofs.YtheakfegchndcaaW.PrintLast Go.Proofs.YtheakfegchndcaaW.PrintMore
attribute [local go_sem] max2_int min2_int max_two min_two max_three min_three max_four min_four   -- for this text's walks alone
set_option linter.unusedVariables false
set_option linter.unusedSimpArgs false
set_option maxHeartbeats 8000000
set_option maxRecDepth 100000

/-! ### laws_markGroup: function 26 -/
def laws_markGroup.f (k:Nat) (l0_0:List ByteArray) (l0_1:List (S57)) (a0_2:Int) (a1:Int):Option (Int × List ByteArray × (List (S57))):=(laws_markStringS.f k l0_0 a1).bind fun bt169=>((laws_markRuleS.f k l0_1 bt169.1).bind fun bt171=>(some (bt171.1,bt169.2,bt171.2)))
theorem laws_markGroup.mono:∀ a0 a1 a2 a3 k,LeO (laws_markGroup.f k a0 a1 a2 a3) (laws_markGroup.f (k + 1) a0 a1 a2 a3):=by
 intro a0 a1 a2 a3 k
 unfold laws_markGroup.f
 repeat' first
   | (with_reducible exact laws_markRuleS.mono _ _ _)
   | (with_reducible exact laws_markStringS.mono _ _ _)
   | (with_reducible exact LeO.refl _)
   | (with_reducible exact LeO.none _)
   | (with_reducible refine LeO.ite ?_ ?_)
   | (with_reducible refine LeO.bind ?_ (fun _=>?_))
   | exact laws_markRuleS.mono _ _ _
   | exact laws_markStringS.mono _ _ _
   | exact LeO.none _
   | refine LeO.ite ?_ ?_
   | refine LeO.bind ?_ (fun _=>?_)
theorem laws_markGroup.calls (k:Nat) (P0_0_:Nat → Prop) (u9000_:Value) (l0_0:List ByteArray) (P0_1_:Nat → Prop) (u9001_:Value) (l0_1:List (S57)) (a0_2:Int) (a1:Int) (r1:Int) (r2:List ByteArray) (r3:List (S57)) (w0 w:World) (hB:Below w0.heap.size w0 w) (ho0_0:Kd.R Kd.string 9 w w0.heap.size P0_0_ u9000_ l0_0) (ho0_1:Kd.R k57 57 w w0.heap.size P0_1_ u9001_ l0_1) (h:laws_markGroup.f k l0_0 l0_1 a0_2 a1 = some (r1,r2,r3)) :
  Calls Try.prog 26 #[.agg #[u9000_,u9001_, .int .i64 a0_2], .int .i64 a1] w fun e w'=>e = .returned (.int .i64 r1) ∧ Kd.R Kd.string 9 w' w0.heap.size (fun k_=>((P0_0_ k_ ∨ P0_1_ k_) ∨ w.heap.size ≤ k_)) u9000_ r2 ∧ Kd.R k57 57 w' w0.heap.size (fun k_=>((P0_0_ k_ ∨ P0_1_ k_) ∨ w.heap.size ≤ k_)) u9001_ r3 ∧ Below w0.heap.size w0 w' ∧ Kept w w' (fun k_=>P0_0_ k_ ∨ P0_1_ k_):=by
 have hu30:=Try.underlying30
 have HO0_0:=Aside0.mk (show Kd.R Kd.string 9 w w0.heap.size (fun k_=>((P0_0_ k_ ∨ P0_1_ k_) ∨ w.heap.size ≤ k_)) u9000_ l0_0 from Kd.R_mono ho0_0 (fun k_ hk=>(.inl (.inl hk))))
 have HO0_1:=Aside0.mk (show Kd.R k57 57 w w0.heap.size (fun k_=>((P0_0_ k_ ∨ P0_1_ k_) ∨ w.heap.size ≤ k_)) u9001_ l0_1 from Kd.R_mono ho0_1 (fun k_ hk=>(.inl (.inr hk))))
 have HK:=Aside0.mk (Kept.refl w (fun k_=>P0_0_ k_ ∨ P0_1_ k_))
 have HW0:=Aside0.mk hB.size
 have HB:=Aside0.mk hB
 clear hB
 have H:((laws_markStringS.f k l0_0 a1).bind fun bt169=>((laws_markRuleS.f k l0_1 bt169.1).bind fun bt171=>(some (bt171.1,bt169.2,bt171.2)))) = some (r1,r2,r3):=h
 clear h
 replace H:=Option.bind_eq_some_iff.mp H
 obtain ⟨⟨t169,t170⟩,A30,H⟩:=H
 replace H:((laws_markRuleS.f k l0_1 t169).bind fun bt171=>(some (bt171.1,t170,bt171.2))) = some (r1,r2,r3):=H
 have A3:=Aside0.mk A30
 clear A30
 replace H:=Option.bind_eq_some_iff.mp H
 obtain ⟨⟨t171,t172⟩,A40,H⟩:=H
 replace H:(some (t171,t170,t172)) = some (r1,r2,r3):=H
 have A4:=Aside0.mk A40
 clear A40
 simp only [Option.some.injEq,Prod.mk.injEq] at H
 obtain ⟨rfl,rfl,rfl⟩:=H
 obtain ⟨Ao5,co5,eo5⟩:=Kd.R_slice HO0_0.out
 subst eo5
 obtain ⟨Ao6,co6,eo6⟩:=Kd.R_slice HO0_1.out
 subst eo6
 go_enter Try.func26,Try.ntmps26
 go_wp2_with (first|((with_reducible refine gate_dst (N:=2) rfl ?_);refine box_event ?hg (N:=2) ?hd (cs:=#[.slice Ao5 l0_0.length co5, .slice Ao6 l0_1.length co6, .int .i64 a0_2]) (t:=30) ?hr ?_;(case hd=>rfl);(case hg=>rfl);(case hr=>first|(go_simp;done)|(go_simp;rfl));intro gb168 hg w7 hbox hb;have n0_:=Aside0.mk (Kd.R_below (by (with_reducible repeat (first|apply Kd.R_alloc|apply Kd.R_drewN|apply Kd.R_drew));exact HO0_0.out) hb);have n1_:=Aside0.mk (Kd.R_below (by (with_reducible repeat (first|apply Kd.R_alloc|apply Kd.R_drewN|apply Kd.R_drew));exact HO0_1.out) hb);have n2_:=Aside0.mk (Kept.below (S:=(fun k_=>P0_0_ k_ ∨ P0_1_ k_)) (by repeat (first|(with_reducible first|exact HK.out|apply Kept.alloc|apply Kept.drewN|apply Kept.drew)|exact HK.out)) hb);have n3_:=Aside0.mk (below_step (by repeat (first|(with_reducible first|exact HB.out|apply below_alloc|apply pw_below_drewN|apply below_drew1)|exact HB.out)) hb);have n4_:=Aside0.mk (hbox);have n5_:=Aside0.mk ((by rw [hg];exact (by first|exact HK.out.1|exact (show Kept w _ (fun k_=>P0_0_ k_ ∨ P0_1_ k_) from by repeat (first|(with_reducible first|exact HK.out|apply Kept.alloc|apply Kept.drewN|apply Kept.drew)|exact HK.out)).1):w.heap.size ≤ gb168));have n6_:=Aside0.mk ((by rw [hg];exact (below_size (by repeat (first|(with_reducible first|exact HB.out|apply below_alloc|apply pw_below_drewN|apply below_drew1)|exact HB.out))):w0.heap.size ≤ gb168));clear HO0_0;clear HO0_1;clear HK;clear HB;have HO0_0:=n0_;have HO0_1:=n1_;have HK:=n2_;have HB:=n3_;have BK168:=n4_;have GW168:=n5_;have GE168:=n6_;clear n0_ n1_ n2_ n3_ n4_ n5_ n6_;clear hb hbox hg;have hcz8_0:w7.cell? ⟨gb168,0,none⟩ = some (.slice Ao5 l0_0.length co5):=(blk_cell BK168.out 0).trans rfl;have hcz8_1:w7.cell? ⟨gb168,1,none⟩ = some (.slice Ao6 l0_1.length co6):=(blk_cell BK168.out 1).trans rfl;have hcz8_2:w7.cell? ⟨gb168,2,none⟩ = some (.int .i64 a0_2):=(blk_cell BK168.out 2).trans rfl;have hfz8_0:=blk_frozen BK168.out 0;have hfz8_1:=blk_frozen BK168.out 1;have hfz8_2:=blk_frozen BK168.out 2)|((with_reducible refine gate_callee (f:=45) rfl ?_);refine goesL_ (some 8) rfl rfl Try.func45 (by kernel_rfl) rfl #[.slice Ao5 l0_0.length co5, .int .i64 a1] rfl (by (try simp only [List.map_toArray,List.map_cons,List.map_nil]);first|done|rfl|(simp only [List.length_drop,List.length_take];rfl)) ?_;(with_reducible refine (laws_markStringS.calls k (fun k_=>some k_ = (.slice Ao5 l0_0.length co5:Value).ownBlock) (.slice Ao5 l0_0.length co5) l0_0 a1 t169 t170 w0 _ ?side1 ?side2 A3.out).mono ?_);(case side1=>repeat (first|(with_reducible first|exact HB.out|apply below_alloc|apply pw_below_drewN|apply below_drew1|refine below_set ?_ GE168.out)|exact HB.out));(case side2=>exact Kd.R_tight rfl HO0_0.out);rintro e w9 ⟨rfl,hy0,hb,hkp⟩;refine ⟨_,rfl,?_⟩;have n0_:=Aside0.mk (Kd.R_reok rfl hy0 (fun k_ e_=>HO0_0.out.1 k_ e_));have n1_:=Aside0.mk (Kd.R_mono (ok':=fun k_=>((P0_0_ k_ ∨ P0_1_ k_) ∨ w.heap.size ≤ k_)) (Kd.R_keptB ((Kd.R_apart' HO0_1.out (Kd.R_typed HO0_0.out) (by decide))) hkp (fun k_ hk_ hs_=>(hk_.2) hs_)) (fun k_ hk_=>hk_.1.1));have n2_:=Aside0.mk (blk_kept (by (with_reducible repeat (first|refine blk_drewN ?_ _|refine blk_drew ?_|refine blk_alloc ?_ _));exact BK168.out) hkp (fun hs_=>(fun e_=>(Kd.R_ne HO0_0.out BK168.out (by decide)) e_) hs_));have n3_:=Aside0.mk (Kept.then_ (S:=(fun k_=>P0_0_ k_ ∨ P0_1_ k_)) (by repeat (first|(with_reducible first|exact HK.out|apply Kept.alloc|apply Kept.drewN|apply Kept.drew|refine Kept.setCell ?_ (.inr GW168.out) _)|exact HK.out)) hkp (fun k_ hs_=>(fun e_=>(HO0_0.out.1 k_ e_.symm)) hs_));have n4_:=Aside0.mk (hb);clear HO0_0;clear HO0_1;clear BK168;clear HK;clear HB;have HO0_0:=n0_;have HO0_1:=n1_;have BK168:=n2_;have HK:=n3_;have HB:=n4_;clear n0_ n1_ n2_ n3_ n4_;(try clear hb);(try clear hkp);(try clear hy0);have hcz10_0:w9.cell? ⟨gb168,0,none⟩ = some (.slice Ao5 l0_0.length co5):=(blk_cell BK168.out 0).trans rfl;have hcz10_1:w9.cell? ⟨gb168,1,none⟩ = some (.slice Ao6 l0_1.length co6):=(blk_cell BK168.out 1).trans rfl;have hcz10_2:w9.cell? ⟨gb168,2,none⟩ = some (.int .i64 a0_2):=(blk_cell BK168.out 2).trans rfl;have hfz10_0:=blk_frozen BK168.out 0;have hfz10_1:=blk_frozen BK168.out 1;have hfz10_2:=blk_frozen BK168.out 2)|((with_reducible refine gate_callee (f:=46) rfl ?_);refine goesL_ (some 12) rfl rfl Try.func46 (by kernel_rfl) rfl #[.slice Ao6 l0_1.length co6, .int .i64 t169] rfl (by (try simp only [List.map_toArray,List.map_cons,List.map_nil]);first|done|rfl|(simp only [List.length_drop,List.length_take];rfl)) ?_;(with_reducible refine (laws_markRuleS.calls k (fun k_=>some k_ = (.slice Ao6 l0_1.length co6:Value).ownBlock) (.slice Ao6 l0_1.length co6) l0_1 t169 t171 t172 w0 _ ?side1 ?side2 A4.out).mono ?_);(case side1=>repeat (first|(with_reducible first|exact HB.out|apply below_alloc|apply pw_below_drewN|apply below_drew1|refine below_set ?_ GE168.out)|exact HB.out));(case side2=>exact Kd.R_tight rfl HO0_1.out);rintro e w11 ⟨rfl,hy0,hb,hkp⟩;refine ⟨_,rfl,?_⟩;have n0_:=Aside0.mk (Kd.R_mono (ok':=fun k_=>((P0_0_ k_ ∨ P0_1_ k_) ∨ w.heap.size ≤ k_)) (Kd.R_keptB ((Kd.R_apart' HO0_0.out (Kd.R_typed HO0_1.out) (by decide))) hkp (fun k_ hk_ hs_=>(hk_.2) hs_)) (fun k_ hk_=>hk_.1.1));have n1_:=Aside0.mk (Kd.R_reok rfl hy0 (fun k_ e_=>HO0_1.out.1 k_ e_));have n2_:=Aside0.mk (blk_kept (by (with_reducible repeat (first|refine blk_drewN ?_ _|refine blk_drew ?_|refine blk_alloc ?_ _));exact BK168.out) hkp (fun hs_=>(fun e_=>(Kd.R_ne HO0_1.out BK168.out (by decide)) e_) hs_));have n3_:=Aside0.mk (Kept.then_ (S:=(fun k_=>P0_0_ k_ ∨ P0_1_ k_)) (by repeat (first|(with_reducible first|exact HK.out|apply Kept.alloc|apply Kept.drewN|apply Kept.drew|refine Kept.setCell ?_ (.inr GW168.out) _)|exact HK.out)) hkp (fun k_ hs_=>(fun e_=>(HO0_1.out.1 k_ e_.symm)) hs_));have n4_:=Aside0.mk (hb);clear HO0_0;clear HO0_1;clear BK168;clear HK;clear HB;have HO0_0:=n0_;have HO0_1:=n1_;have BK168:=n2_;have HK:=n3_;have HB:=n4_;clear n0_ n1_ n2_ n3_ n4_;(try clear hb);(try clear hkp);(try clear hy0)))
 go_ret
 exact ⟨by first|rfl|(simp <;> rfl)|(simp [*] <;> rfl),by (with_reducible repeat (first|apply Kd.R_alloc|apply Kd.R_drewN|apply Kd.R_drew));exact HO0_0.out,by (with_reducible repeat (first|apply Kd.R_alloc|apply Kd.R_drewN|apply Kd.R_drew));exact HO0_1.out,by repeat (first|(with_reducible first|exact HB.out|apply below_alloc|apply pw_below_drewN|apply below_drew1|refine below_set ?_ GE168.out)|exact HB.out),by repeat (first|(with_reducible first|exact HK.out|apply Kept.alloc|apply Kept.drewN|apply Kept.drew|refine Kept.setCell ?_ (.inr GW168.out) _)|exact HK.out)⟩

/-! ### laws_heldStringS: function 47 -/
def laws_heldStringS.l0:Nat → List ByteArray → Int → Int → Option (Int)
 | 0,_,_,_=>none
 | k + 1,x0,x1,x5=>if x5 < (x0.length:Int) then (if 0 ≤ x5 then ((laws_markText.f k x1).bind fun t174=>(if (rdOf ByteArray.empty x0 x5).toList = t174.toList then (laws_heldStringS.l0 k x0 (wrap64 (x1 + 1)) (wrap64 (x5 + 1))) else (some (-1)))) else (none)) else (some x1)
def laws_heldStringS.f (k:Nat) (l0:List ByteArray) (a1:Int):Option (Int):=laws_heldStringS.l0 k l0 a1 0
theorem laws_heldStringS.mono_l:∀ k,(∀ y0 y1 y2,LeO (laws_heldStringS.l0 k y0 y1 y2) (laws_heldStringS.l0 (k + 1) y0 y1 y2))
 | 0=>fun _ _ _ r h=>by simp [laws_heldStringS.l0] at h
 | k + 1=>by
  have ih0:=laws_heldStringS.mono_l k
  ·intro y0 y1 y2
   unfold laws_heldStringS.l0
   repeat' first
   | (with_reducible exact ih0 _ _ _)
   | (with_reducible exact laws_markText.mono _ _)
   | (with_reducible exact LeO.refl _)
   | (with_reducible exact LeO.none _)
   | (with_reducible refine LeO.ite ?_ ?_)
   | (with_reducible refine LeO.bind ?_ (fun _=>?_))
   | exact ih0 _ _ _
   | exact laws_markText.mono _ _
   | exact LeO.none _
   | refine LeO.ite ?_ ?_
   | refine LeO.bind ?_ (fun _=>?_)
theorem laws_heldStringS.mono:∀ a0 a1 k,LeO (laws_heldStringS.f k a0 a1) (laws_heldStringS.f (k + 1) a0 a1):=by
 intro a0 a1 k
 have ih0:=laws_heldStringS.mono_l k
 unfold laws_heldStringS.f
 repeat' first
   | (with_reducible exact ih0 _ _ _)
   | (with_reducible exact laws_markText.mono _ _)
   | (with_reducible exact LeO.refl _)
   | (with_reducible exact LeO.none _)
   | (with_reducible refine LeO.ite ?_ ?_)
   | (with_reducible refine LeO.bind ?_ (fun _=>?_))
   | exact ih0 _ _ _
   | exact laws_markText.mono _ _
   | exact LeO.none _
   | refine LeO.ite ?_ ?_
   | refine LeO.bind ?_ (fun _=>?_)
theorem laws_heldStringS.calls (k:Nat) (A0:Option Addr) (c0:Nat) (l0:List ByteArray) (a1:Int) (r:Int) (w:World) (hr0:Kd.C Kd.string w A0 l0.length l0) (hc0:l0.length ≤ c0) (h:laws_heldStringS.f k l0 a1 = some r) :
  Calls Try.prog 47 #[.slice A0 l0.length c0, .int .i64 a1] w fun e w'=>e = .returned (.int .i64 r) ∧ Below w.heap.size w w':=by
 have HR0:=Aside0.mk hr0
 have HC0:=Aside0.mk hc0
 clear hr0 hc0
 have HB:=Aside0.mk (Below.refl w.heap.size w)
 have H:(laws_heldStringS.l0 k l0 a1 0) = some r:=h
 clear h
 have H':=Aside0.mk H
 clear H
 go_enter Try.func47,Try.ntmps47
 go_wp2
 go_loopg [1,5] k (fun kq v1 v5 w'=>∃ (x1_1:Int) (x5_1:Int),v1 = .int .i64 x1_1 ∧ v5 = .int .i64 x5_1 ∧ Aside0 (laws_heldStringS.l0 kq l0 x1_1 x5_1 = some r) ∧ Aside0 (kq ≤ k) ∧ Aside0 (Below w.heap.size w w'))
 case atStart=>exact ⟨(a1),(0),(by first|rfl|(simp;done)|(simp only [i64_w,i32_w];done)|(simp only [i64_w,i32_w];rfl)|(simp [*];done)|(simp [emp_bne,emp_beq];done)),(by first|rfl|(simp;done)|(simp only [i64_w,i32_w];done)|(simp only [i64_w,i32_w];rfl)|(simp [*];done)|(simp [emp_bne,emp_beq];done)),H',⟨Nat.le_refl _⟩,⟨by repeat (first|(with_reducible first|exact HB.out|apply below_alloc|apply pw_below_drewN|apply below_drew1)|exact HB.out)⟩⟩
 case round =>
  clear H'
  try clear p2
  obtain ⟨x1_1,x5_1,rfl,rfl,HA,HK1,HB⟩:=hrel
  cases gk with
  | zero=>exact absurd HA.out (by simp [laws_heldStringS.l0])
  | succ k1 =>
   have H:=HA.out
   clear HA
   simp only [laws_heldStringS.l0] at H
   by_cases c3:x5_1 < (l0.length:Int)
   ·rw [if_pos c3] at H
    have c3b0:decide (x5_1 < (l0.length:Int)) = true:=decide_eq_true c3
    clear c3
    by_cases c4:0 ≤ x5_1
    ·rw [if_pos c4] at H
     have c4b0:decide (0 ≤ x5_1) = true:=decide_eq_true c4
     clear c4
     replace H:=Option.bind_eq_some_iff.mp H
     obtain ⟨t174,A50,H⟩:=H
     replace H:(if (rdOf ByteArray.empty l0 x5_1).toList = t174.toList then (laws_heldStringS.l0 k1 l0 (wrap64 (x1_1 + 1)) (wrap64 (x5_1 + 1))) else (some (-1))) = some r:=H
     have A5:=Aside0.mk A50
     clear A50
     by_cases c6:(rdOf ByteArray.empty l0 x5_1).toList = t174.toList
     ·rw [if_pos c6] at H
      have c6b0:((rdOf ByteArray.empty l0 x5_1).toList == t174.toList) = true:=beq_iff_eq.mpr c6
      have c6b1:((rdOf ByteArray.empty l0 x5_1).toList != t174.toList) = false:=bne_eq_false_iff_eq.mpr c6
      clear c6
      have H':=Aside0.mk H
      clear H
      try go_wp2
      have n0_:=Aside0.mk (below_drew1 HB.out)
      clear HB
      have HB:=n0_
      clear n0_
      have p173:0 ≤ (x5_1:Int):=of_decide_eq_true (by first|(with_reducible assumption)|assumption)
      have q173:x5_1 < (l0.length:Int):=of_decide_eq_true (by first|(with_reducible assumption)|assumption)
      obtain ⟨ad173,e173,hx173_0⟩:=Kd.at_string HR0.out x5_1 p173 q173
      have hw173_0:=hx173_0
      cases e173
      replace hx173_0:=(HB.out.cell (World.block_lt_of_cell? w _ hx173_0)).trans hx173_0
      replace p173:=eq_true p173
      replace q173:=eq_true q173
      refine start_ (n:=7) (S:=fun w'=>w'.cell? (ad173.add (x5_1).toNat) = some (.string (rdOf ByteArray.empty l0 x5_1))) (ds:=[]) #[false,false,false,false,false,false,false] (by kernel_rfl) rfl rfl (((HB.out.cell (World.block_lt_of_cell? w _ hw173_0)).trans hw173_0)) (fun hHeld=>?_)
      generalize wr.drew = w7 at HB hx173_0 hHeld ⊢
      refine pure_ (i:=0) (N:=some 12) (v:=?_) (a':=?_) #[true,false,false,false,false,false,false] rfl rfl (by kernel_rfl) (fun _ _ _ h=>h) (Or.inl ⟨by rfl,?_⟩) ?_ ?_
      rotate_left
      ·intro w'
       go_simp
       with_reducible rfl
      rotate_left
      ·simp only [Act.put,List.setIfInBounds_toArray,List.set_cons_zero,List.set_cons_succ,i64_w,i32_w]
       rfl
      refine pure_ (i:=1) (N:=some 13) (v:=?_) (a':=?_) #[true,true,false,false,false,false,false] rfl rfl (by kernel_rfl) (fun _ _ _ h=>h) (Or.inl ⟨by rfl,?_⟩) ?_ ?_
      rotate_left
      ·intro w'
       go_simp
       with_reducible rfl
      rotate_left
      ·simp only [Act.put,List.setIfInBounds_toArray,List.set_cons_zero,List.set_cons_succ,i64_w,i32_w]
       rfl
      refine pure_ (i:=2) (N:=some 14) (v:=?_) (a':=?_) #[true,true,true,false,false,false,false] rfl rfl (by kernel_rfl) (fun _ _ _ h=>h) (Or.inl ⟨by rfl,?_⟩) ?_ ?_
      rotate_left
      ·intro w'
       go_simp
       with_reducible rfl
      rotate_left
      ·simp only [Act.put,List.setIfInBounds_toArray,List.set_cons_zero,List.set_cons_succ,i64_w,i32_w]
       rfl
      refine pure_ (i:=4) (N:=some 16) (v:=?_) (a':=?_) #[true,true,true,false,true,false,false] rfl rfl (by kernel_rfl) (fun _ _ _ h=>h) (Or.inl ⟨by rfl,?_⟩) ?_ ?_
      rotate_left
      ·intro w'
       go_simp
       with_reducible rfl
      rotate_left
      ·simp only [Act.put,List.setIfInBounds_toArray,List.set_cons_zero,List.set_cons_succ,i64_w,i32_w]
       rfl
      refine take_ (i:=3) (N:=some 15) (v:=?_) (a':=?_) #[true,true,true,true,true,false,false] rfl rfl (by kernel_rfl) (fun _ _ _ h=>h) (Or.inl ⟨by rfl,?_⟩) hHeld ?_ ?_
      rotate_left
      ·intro w' s0
       go_simp
       with_reducible rfl
      rotate_left
      ·simp only [Act.put,List.setIfInBounds_toArray,List.set_cons_zero,List.set_cons_succ,i64_w,i32_w]
       rfl
      refine one_ (i:=5) (N:=some 17) #[true,true,true,true,true,true,false] rfl rfl (by kernel_rfl) (by decide) (fun K hK=>?_)
      refine goes_ Try.func61 (by kernel_rfl) rfl #[.int .i64 x1_1] (by rfl) rfl rfl (by (try simp only [List.map_toArray,List.map_cons,List.map_nil]);first|done|rfl|(simp only [List.length_drop,List.length_take];rfl)) ?_
      with_reducible refine (laws_markText.calls k1 x1_1 t174 _ A5.out).mono ?_
      rintro e w8 ⟨rfl,hb⟩
      refine ⟨_,rfl,?_⟩
      have n0_:=Aside0.mk (below_step (by repeat (first|(with_reducible first|exact HB.out|apply below_alloc|apply pw_below_drewN|apply below_drew1)|exact HB.out)) hb)
      clear HB
      have HB:=n0_
      clear n0_
      (try clear hb)
      (try clear hb2)
      (try clear hk)
      (try clear hi)
      refine hK.out _ _ (((HB.out.cell (World.block_lt_of_cell? w _ hw173_0)).trans hw173_0)) (fun hHeld=>?_)
      clear hK K
      refine norm_ (a':=?_) ?_ ?_
      rotate_left
      ·show Act.put _ (some 17) _ = _
       simp only [Act.put,List.setIfInBounds_toArray,List.set_cons_zero,List.set_cons_succ,i64_w,i32_w]
       rfl
      refine pure_ (i:=6) (N:=some 18) (v:=?_) (a':=?_) #[true,true,true,true,true,true,true] rfl rfl (by kernel_rfl) (fun _ _ _ h=>h) (Or.inl ⟨by rfl,?_⟩) ?_ ?_
      rotate_left
      ·intro w'
       go_simp
       with_reducible rfl
      rotate_left
      ·simp only [Act.put,List.setIfInBounds_toArray,List.set_cons_zero,List.set_cons_succ,i64_w,i32_w]
       rfl
      refine done_ (by kernel_rfl) ?_
      try go_wp2
      go_roundg k1
      case measure=>have:=HK1.out;omega
      case rel=>exact ⟨(wrap64 (x1_1 + 1)),(wrap64 (x5_1 + 1)),(by first|rfl|(simp;done)|(simp only [i64_w,i32_w];done)|(simp only [i64_w,i32_w];rfl)|(simp [*];done)|(simp [emp_bne,emp_beq];done)),(by first|rfl|(simp;done)|(simp only [i64_w,i32_w];done)|(simp only [i64_w,i32_w];rfl)|(simp [*];done)|(simp [emp_bne,emp_beq];done)),H',⟨by have:=HK1.out;omega⟩,⟨by repeat (first|(with_reducible first|exact HB.out|apply below_alloc|apply pw_below_drewN|apply below_drew1)|exact HB.out)⟩⟩
     ·rw [if_neg c6] at H
      have c6b0:((rdOf ByteArray.empty l0 x5_1).toList == t174.toList) = false:=beq_eq_false_iff_ne.mpr c6
      have c6b1:((rdOf ByteArray.empty l0 x5_1).toList != t174.toList) = true:=bne_iff_ne.mpr c6
      obtain rfl:=Option.some.inj H
      try go_wp2
      have n0_:=Aside0.mk (below_drew1 HB.out)
      clear HB
      have HB:=n0_
      clear n0_
      have p173:0 ≤ (x5_1:Int):=of_decide_eq_true (by first|(with_reducible assumption)|assumption)
      have q173:x5_1 < (l0.length:Int):=of_decide_eq_true (by first|(with_reducible assumption)|assumption)
      obtain ⟨ad173,e173,hx173_0⟩:=Kd.at_string HR0.out x5_1 p173 q173
      have hw173_0:=hx173_0
      cases e173
      replace hx173_0:=(HB.out.cell (World.block_lt_of_cell? w _ hx173_0)).trans hx173_0
      replace p173:=eq_true p173
      replace q173:=eq_true q173
      refine start_ (n:=7) (S:=fun w'=>w'.cell? (ad173.add (x5_1).toNat) = some (.string (rdOf ByteArray.empty l0 x5_1))) (ds:=[]) #[false,false,false,false,false,false,false] (by kernel_rfl) rfl rfl (((HB.out.cell (World.block_lt_of_cell? w _ hw173_0)).trans hw173_0)) (fun hHeld=>?_)
      generalize wr.drew = w9 at HB hx173_0 hHeld ⊢
      refine pure_ (i:=0) (N:=some 12) (v:=?_) (a':=?_) #[true,false,false,false,false,false,false] rfl rfl (by kernel_rfl) (fun _ _ _ h=>h) (Or.inl ⟨by rfl,?_⟩) ?_ ?_
      rotate_left
      ·intro w'
       go_simp
       with_reducible rfl
      rotate_left
      ·simp only [Act.put,List.setIfInBounds_toArray,List.set_cons_zero,List.set_cons_succ,i64_w,i32_w]
       rfl
      refine pure_ (i:=1) (N:=some 13) (v:=?_) (a':=?_) #[true,true,false,false,false,false,false] rfl rfl (by kernel_rfl) (fun _ _ _ h=>h) (Or.inl ⟨by rfl,?_⟩) ?_ ?_
      rotate_left
      ·intro w'
       go_simp
       with_reducible rfl
      rotate_left
      ·simp only [Act.put,List.setIfInBounds_toArray,List.set_cons_zero,List.set_cons_succ,i64_w,i32_w]
       rfl
      refine pure_ (i:=2) (N:=some 14) (v:=?_) (a':=?_) #[true,true,true,false,false,false,false] rfl rfl (by kernel_rfl) (fun _ _ _ h=>h) (Or.inl ⟨by rfl,?_⟩) ?_ ?_
      rotate_left
      ·intro w'
       go_simp
       with_reducible rfl
      rotate_left
      ·simp only [Act.put,List.setIfInBounds_toArray,List.set_cons_zero,List.set_cons_succ,i64_w,i32_w]
       rfl
      refine pure_ (i:=4) (N:=some 16) (v:=?_) (a':=?_) #[true,true,true,false,true,false,false] rfl rfl (by kernel_rfl) (fun _ _ _ h=>h) (Or.inl ⟨by rfl,?_⟩) ?_ ?_
      rotate_left
      ·intro w'
       go_simp
       with_reducible rfl
      rotate_left
      ·simp only [Act.put,List.setIfInBounds_toArray,List.set_cons_zero,List.set_cons_succ,i64_w,i32_w]
       rfl
      refine take_ (i:=3) (N:=some 15) (v:=?_) (a':=?_) #[true,true,true,true,true,false,false] rfl rfl (by kernel_rfl) (fun _ _ _ h=>h) (Or.inl ⟨by rfl,?_⟩) hHeld ?_ ?_
      rotate_left
      ·intro w' s0
       go_simp
       with_reducible rfl
      rotate_left
      ·simp only [Act.put,List.setIfInBounds_toArray,List.set_cons_zero,List.set_cons_succ,i64_w,i32_w]
       rfl
      refine one_ (i:=5) (N:=some 17) #[true,true,true,true,true,true,false] rfl rfl (by kernel_rfl) (by decide) (fun K hK=>?_)
      refine goes_ Try.func61 (by kernel_rfl) rfl #[.int .i64 x1_1] (by rfl) rfl rfl (by (try simp only [List.map_toArray,List.map_cons,List.map_nil]);first|done|rfl|(simp only [List.length_drop,List.length_take];rfl)) ?_
      with_reducible refine (laws_markText.calls k1 x1_1 t174 _ A5.out).mono ?_
      rintro e w10 ⟨rfl,hb⟩
      refine ⟨_,rfl,?_⟩
      have n0_:=Aside0.mk (below_step (by repeat (first|(with_reducible first|exact HB.out|apply below_alloc|apply pw_below_drewN|apply below_drew1)|exact HB.out)) hb)
      clear HB
      have HB:=n0_
      clear n0_
      (try clear hb)
      (try clear hb2)
      (try clear hk)
      (try clear hi)
      refine hK.out _ _ (((HB.out.cell (World.block_lt_of_cell? w _ hw173_0)).trans hw173_0)) (fun hHeld=>?_)
      clear hK K
      refine norm_ (a':=?_) ?_ ?_
      rotate_left
      ·show Act.put _ (some 17) _ = _
       simp only [Act.put,List.setIfInBounds_toArray,List.set_cons_zero,List.set_cons_succ,i64_w,i32_w]
       rfl
      refine pure_ (i:=6) (N:=some 18) (v:=?_) (a':=?_) #[true,true,true,true,true,true,true] rfl rfl (by kernel_rfl) (fun _ _ _ h=>h) (Or.inl ⟨by rfl,?_⟩) ?_ ?_
      rotate_left
      ·intro w'
       go_simp
       with_reducible rfl
      rotate_left
      ·simp only [Act.put,List.setIfInBounds_toArray,List.set_cons_zero,List.set_cons_succ,i64_w,i32_w]
       rfl
      refine done_ (by kernel_rfl) ?_
      try go_wp2
      go_ret
      exact ⟨by first|rfl|(simp <;> rfl)|(simp [*] <;> rfl),by repeat (first|(with_reducible first|exact HB.out|apply below_alloc|apply pw_below_drewN|apply below_drew1)|exact HB.out)⟩
    ·rw [if_neg c4] at H
     exact absurd H (by simp)
   ·rw [if_neg c3] at H
    have c3b0:decide (x5_1 < (l0.length:Int)) = false:=decide_eq_false c3
    clear c3
    obtain rfl:=Option.some.inj H
    go_wp2
    go_ret
    exact ⟨by first|rfl|(simp <;> rfl)|(simp [*] <;> rfl),by repeat (first|(with_reducible first|exact HB.out|apply below_alloc|apply pw_below_drewN|apply below_drew1)|exact HB.out)⟩

/-! ### laws_heldRuleS: function 48 -/
def laws_heldRuleS.l0:Nat → List (S57) → Int → Int → Option (Int)
 | 0,_,_,_=>none
 | k + 1,x0,x1,x5=>if x5 < (x0.length:Int) then (if 0 ≤ x5 then (if (((rd_T57 x0 x5).f0) != ((Int.tmod x1 3) == 0)) = true then (some (-1)) else ((laws_markText.f k (wrap64 (x1 + 1))).bind fun t177=>(if ((rd_T57 x0 x5).f1).toList = t177.toList then (laws_heldRuleS.l0 k x0 (wrap64 ((wrap64 (x1 + 1)) + 1)) (wrap64 (x5 + 1))) else (some (-1))))) else (none)) else (some x1)
def laws_heldRuleS.f (k:Nat) (l0:List (S57)) (a1:Int):Option (Int):=laws_heldRuleS.l0 k l0 a1 0
theorem laws_heldRuleS.mono_l:∀ k,(∀ y0 y1 y2,LeO (laws_heldRuleS.l0 k y0 y1 y2) (laws_heldRuleS.l0 (k + 1) y0 y1 y2))
 | 0=>fun _ _ _ r h=>by simp [laws_heldRuleS.l0] at h
 | k + 1=>by
  have ih0:=laws_heldRuleS.mono_l k
  ·intro y0 y1 y2
   unfold laws_heldRuleS.l0
   repeat' first
   | (with_reducible exact ih0 _ _ _)
   | (with_reducible exact laws_markText.mono _ _)
   | (with_reducible exact LeO.refl _)
   | (with_reducible exact LeO.none _)
   | (with_reducible refine LeO.ite ?_ ?_)
   | (with_reducible refine LeO.bind ?_ (fun _=>?_))
   | exact ih0 _ _ _
   | exact laws_markText.mono _ _
   | exact LeO.none _
   | refine LeO.ite ?_ ?_
   | refine LeO.bind ?_ (fun _=>?_)
theorem laws_heldRuleS.mono:∀ a0 a1 k,LeO (laws_heldRuleS.f k a0 a1) (laws_heldRuleS.f (k + 1) a0 a1):=by
 intro a0 a1 k
 have ih0:=laws_heldRuleS.mono_l k
 unfold laws_heldRuleS.f
 repeat' first
   | (with_reducible exact ih0 _ _ _)
   | (with_reducible exact laws_markText.mono _ _)
   | (with_reducible exact LeO.refl _)
   | (with_reducible exact LeO.none _)
   | (with_reducible refine LeO.ite ?_ ?_)
   | (with_reducible refine LeO.bind ?_ (fun _=>?_))
   | exact ih0 _ _ _
   | exact laws_markText.mono _ _
   | exact LeO.none _
   | refine LeO.ite ?_ ?_
   | refine LeO.bind ?_ (fun _=>?_)
def laws_heldRuleS.T7:Bool × List (List Nat × List Nat):=(true,[([],[]),([],[]),([0,1],[0,1]),([2],[2]),([3],[3]),([],[]),([5],[5]),([4,6],[4,6])])
def laws_heldRuleS.B7:List Nat:=[0,0,3,7,15,0,32,127]
theorem laws_heldRuleS.tab7:rtab .any (opsOf Try.f48 7) = laws_heldRuleS.T7:=by kernel_rfl
theorem laws_heldRuleS.bits7:waitsOk laws_heldRuleS.T7.2 laws_heldRuleS.B7 = true:=by kernel_rfl
theorem laws_heldRuleS.calls (k:Nat) (A0:Option Addr) (c0:Nat) (l0:List (S57)) (a1:Int) (r:Int) (w:World) (hr0:Kd.C k57 w A0 l0.length l0) (hc0:l0.length ≤ c0) (h:laws_heldRuleS.f k l0 a1 = some r) :
  Calls Try.prog 48 #[.slice A0 l0.length c0, .int .i64 a1] w fun e w'=>e = .returned (.int .i64 r) ∧ Below w.heap.size w w':=by
 have HR0:=Aside0.mk hr0
 have HC0:=Aside0.mk hc0
 clear hr0 hc0
 have HB:=Aside0.mk (Below.refl w.heap.size w)
 have H:(laws_heldRuleS.l0 k l0 a1 0) = some r:=h
 clear h
 have H':=Aside0.mk H
 clear H
 go_enter Try.func48,Try.ntmps48
 go_wp2
 go_loopg [1,5] k (fun kq v1 v5 w'=>∃ (x1_1:Int) (x5_1:Int),v1 = .int .i64 x1_1 ∧ v5 = .int .i64 x5_1 ∧ Aside0 (laws_heldRuleS.l0 kq l0 x1_1 x5_1 = some r) ∧ Aside0 (kq ≤ k) ∧ Aside0 (Below w.heap.size w w'))
 case atStart=>exact ⟨(a1),(0),(by first|rfl|(simp;done)|(simp only [i64_w,i32_w];done)|(simp only [i64_w,i32_w];rfl)|(simp [*];done)|(simp [emp_bne,emp_beq];done)),(by first|rfl|(simp;done)|(simp only [i64_w,i32_w];done)|(simp only [i64_w,i32_w];rfl)|(simp [*];done)|(simp [emp_bne,emp_beq];done)),H',⟨Nat.le_refl _⟩,⟨by repeat (first|(with_reducible first|exact HB.out|apply below_alloc|apply pw_below_drewN|apply below_drew1)|exact HB.out)⟩⟩
 case round =>
  clear H'
  try clear p2
  obtain ⟨x1_1,x5_1,rfl,rfl,HA,HK1,HB⟩:=hrel
  cases gk with
  | zero=>exact absurd HA.out (by simp [laws_heldRuleS.l0])
  | succ k1 =>
   have H:=HA.out
   clear HA
   simp only [laws_heldRuleS.l0] at H
   by_cases c3:x5_1 < (l0.length:Int)
   ·rw [if_pos c3] at H
    have c3b0:decide (x5_1 < (l0.length:Int)) = true:=decide_eq_true c3
    clear c3
    by_cases c4:0 ≤ x5_1
    ·rw [if_pos c4] at H
     have c4b0:decide (0 ≤ x5_1) = true:=decide_eq_true c4
     clear c4
     by_cases c5:(((rd_T57 l0 x5_1).f0) != ((Int.tmod x1_1 3) == 0)) = true
     ·rw [if_pos c5] at H
      have c5b0:(((rd_T57 l0 x5_1).f0) != ((Int.tmod x1_1 3) == 0)) = true:=c5
      (try (have c5b1:decide (((rd_T57 l0 x5_1).f0) = ((Int.tmod x1_1 3) == 0)) = false:=by simpa using c5))
      (try (have c5b2:(((rd_T57 l0 x5_1).f0) == ((Int.tmod x1_1 3) == 0)) = false:=by simpa using c5))
      (try (have c5b3:¬ (((rd_T57 l0 x5_1).f0) = ((Int.tmod x1_1 3) == 0)):=by simpa using c5))
      clear c5
      obtain rfl:=Option.some.inj H
      have p175:0 ≤ (x5_1:Int):=of_decide_eq_true (by first|(with_reducible assumption)|assumption)
      have q175:x5_1 < (l0.length:Int):=of_decide_eq_true (by first|(with_reducible assumption)|assumption)
      obtain ⟨ad175,e175,hx175_0,hx175_1⟩:=at_T57 HR0.out x5_1 p175 q175
      cases e175
      replace hx175_0:=(HB.out.cell (World.block_lt_of_cell? w _ hx175_0)).trans hx175_0
      replace hx175_1:=(HB.out.cell (World.block_lt_of_cell? w _ hx175_1)).trans hx175_1
      replace p175:=eq_true p175
      replace q175:=eq_true q175
      go_wp2
      go_ret
      exact ⟨by first|rfl|(simp <;> rfl)|(simp [*] <;> rfl),by repeat (first|(with_reducible first|exact HB.out|apply below_alloc|apply pw_below_drewN|apply below_drew1)|exact HB.out)⟩
     ·rw [if_neg c5] at H
      have c5b0:(((rd_T57 l0 x5_1).f0) != ((Int.tmod x1_1 3) == 0)) = false:=by simpa using c5
      (try (have c5b1:decide (((rd_T57 l0 x5_1).f0) = ((Int.tmod x1_1 3) == 0)) = true:=by simpa using c5))
      (try (have c5b2:(((rd_T57 l0 x5_1).f0) == ((Int.tmod x1_1 3) == 0)) = true:=by simpa using c5))
      clear c5
      replace H:=Option.bind_eq_some_iff.mp H
      obtain ⟨t177,A60,H⟩:=H
      replace H:(if ((rd_T57 l0 x5_1).f1).toList = t177.toList then (laws_heldRuleS.l0 k1 l0 (wrap64 ((wrap64 (x1_1 + 1)) + 1)) (wrap64 (x5_1 + 1))) else (some (-1))) = some r:=H
      have A6:=Aside0.mk A60
      clear A60
      by_cases c7:((rd_T57 l0 x5_1).f1).toList = t177.toList
      ·rw [if_pos c7] at H
       have c7b0:(((rd_T57 l0 x5_1).f1).toList == t177.toList) = true:=beq_iff_eq.mpr c7
       have c7b1:(((rd_T57 l0 x5_1).f1).toList != t177.toList) = false:=bne_eq_false_iff_eq.mpr c7
       clear c7
       have H':=Aside0.mk H
       clear H
       have p175:0 ≤ (x5_1:Int):=of_decide_eq_true (by first|(with_reducible assumption)|assumption)
       have q175:x5_1 < (l0.length:Int):=of_decide_eq_true (by first|(with_reducible assumption)|assumption)
       obtain ⟨ad175,e175,hx175_0,hx175_1⟩:=at_T57 HR0.out x5_1 p175 q175
       cases e175
       replace hx175_0:=(HB.out.cell (World.block_lt_of_cell? w _ hx175_0)).trans hx175_0
       replace hx175_1:=(HB.out.cell (World.block_lt_of_cell? w _ hx175_1)).trans hx175_1
       replace p175:=eq_true p175
       replace q175:=eq_true q175
       try go_wp2
       have n0_:=Aside0.mk (below_drew1 HB.out)
       clear HB
       have HB:=n0_
       clear n0_
       have p176:0 ≤ (x5_1:Int):=of_decide_eq_true (by first|(with_reducible assumption)|assumption)
       have q176:x5_1 < (l0.length:Int):=of_decide_eq_true (by first|(with_reducible assumption)|assumption)
       obtain ⟨ad176,e176,hx176_0,hx176_1⟩:=at_T57 HR0.out x5_1 p176 q176
       have hw176_1:=hx176_1
       have hw176_0:=hx176_0
       obtain rfl:ad175 = ad176:=(by injection e176)
       replace hx176_0:=(HB.out.cell (World.block_lt_of_cell? w _ hx176_0)).trans hx176_0
       replace hx176_1:=(HB.out.cell (World.block_lt_of_cell? w _ hx176_1)).trans hx176_1
       replace p176:=eq_true p176
       replace q176:=eq_true q176
       refine start_ (n:=8) (S:=fun w'=>w'.cell? (ad175.add ((x5_1).toNat * 2)) = some (.bool ((rd_T57 l0 x5_1).f0)) ∧ w'.cell? ⟨(ad175.add ((x5_1).toNat * 2)).block,(ad175.add ((x5_1).toNat * 2)).off + 1,none⟩ = some (.string ((rd_T57 l0 x5_1).f1))) (ds:=[]) #[false,false,false,false,false,false,false,false] (by kernel_rfl) rfl rfl ⟨((HB.out.cell (World.block_lt_of_cell? w _ hw176_0)).trans hw176_0),((HB.out.cell (World.block_lt_of_cell? w _ hw176_1)).trans hw176_1)⟩ (fun hHeld=>?_);refine with_tabW laws_heldRuleS.tab7 laws_heldRuleS.bits7 (fun HT_ HW_=>?_)
       generalize wr.drew = w8 at HB hx176_0 hx176_1 hHeld ⊢
       refine pure_ (i:=0) (N:=some 23) (v:=?_) (a':=?_) #[true,false,false,false,false,false,false,false] rfl rfl (any_of HT_.out (by kernel_rfl)) (fun _ _ _ h=>h) (Or.inl ⟨by rfl,?_⟩) ?_ ?_
       rotate_left
       ·intro w'
        go_simp
        with_reducible rfl
       rotate_left
       ·simp only [Act.put,List.setIfInBounds_toArray,List.set_cons_zero,List.set_cons_succ,i64_w,i32_w]
        rfl
       refine pure_ (i:=1) (N:=some 24) (v:=?_) (a':=?_) #[true,true,false,false,false,false,false,false] rfl rfl (any_of HT_.out (by kernel_rfl)) (fun _ _ _ h=>h) (Or.inl ⟨by rfl,?_⟩) ?_ ?_
       rotate_left
       ·intro w'
        go_simp
        with_reducible rfl
       rotate_left
       ·simp only [Act.put,List.setIfInBounds_toArray,List.set_cons_zero,List.set_cons_succ,i64_w,i32_w]
        rfl
       refine pure_ (i:=2) (N:=some 25) (v:=?_) (a':=?_) #[true,true,true,false,false,false,false,false] rfl rfl (any_of HT_.out (by kernel_rfl)) (fun _ _ _ h=>h) (Or.inl ⟨by rfl,?_⟩) ?_ ?_
       rotate_left
       ·intro w'
        go_simp
        with_reducible rfl
       rotate_left
       ·simp only [Act.put,List.setIfInBounds_toArray,List.set_cons_zero,List.set_cons_succ,i64_w,i32_w]
        rfl
       refine pure_ (i:=3) (N:=some 26) (v:=?_) (a':=?_) #[true,true,true,true,false,false,false,false] rfl rfl (any_of HT_.out (by kernel_rfl)) (fun _ _ _ h=>h) (Or.inl ⟨by rfl,?_⟩) ?_ ?_
       rotate_left
       ·intro w'
        go_simp
        with_reducible rfl
       rotate_left
       ·simp only [Act.put,List.setIfInBounds_toArray,List.set_cons_zero,List.set_cons_succ,i64_w,i32_w]
        rfl
       refine pure_ (i:=5) (N:=some 28) (v:=?_) (a':=?_) #[true,true,true,true,false,true,false,false] rfl rfl (any_of HT_.out (by kernel_rfl)) (fun _ _ _ h=>h) (Or.inl ⟨by rfl,?_⟩) ?_ ?_
       rotate_left
       ·intro w'
        go_simp
        with_reducible rfl
       rotate_left
       ·simp only [Act.put,List.setIfInBounds_toArray,List.set_cons_zero,List.set_cons_succ,i64_w,i32_w]
        rfl
       refine take_ (i:=4) (N:=some 27) (v:=?_) (a':=?_) #[true,true,true,true,true,true,false,false] rfl rfl (take_ofW HT_.out HW_.out (by kernel_rfl)) (fun _ _ _ h=>h) (Or.inl ⟨by rfl,?_⟩) hHeld ?_ ?_
       rotate_left
       ·rintro w' ⟨s0,s1⟩
        go_simp
        with_reducible rfl
       rotate_left
       ·simp only [Act.put,List.setIfInBounds_toArray,List.set_cons_zero,List.set_cons_succ,i64_w,i32_w]
        rfl
       refine one_ (i:=6) (N:=some 29) #[true,true,true,true,true,true,true,false] rfl rfl (one_of HT_.out (by kernel_rfl)) (by decide) (fun K hK=>?_)
       refine goes_ Try.func61 (by kernel_rfl) rfl #[.int .i64 (wrap64 (x1_1 + 1))] (by rfl) rfl rfl (by (try simp only [List.map_toArray,List.map_cons,List.map_nil]);first|done|rfl|(simp only [List.length_drop,List.length_take];rfl)) ?_
       with_reducible refine (laws_markText.calls k1 (wrap64 (x1_1 + 1)) t177 _ A6.out).mono ?_
       rintro e w9 ⟨rfl,hb⟩
       refine ⟨_,rfl,?_⟩
       have n0_:=Aside0.mk (below_step (by repeat (first|(with_reducible first|exact HB.out|apply below_alloc|apply pw_below_drewN|apply below_drew1)|exact HB.out)) hb)
       clear HB
       have HB:=n0_
       clear n0_
       (try clear hb)
       (try clear hb2)
       (try clear hk)
       (try clear hi)
       refine hK.out _ _ ⟨((HB.out.cell (World.block_lt_of_cell? w _ hw176_0)).trans hw176_0),((HB.out.cell (World.block_lt_of_cell? w _ hw176_1)).trans hw176_1)⟩ (fun hHeld=>?_)
       clear hK K
       refine norm_ (a':=?_) ?_ ?_
       rotate_left
       ·show Act.put _ (some 29) _ = _
        simp only [Act.put,List.setIfInBounds_toArray,List.set_cons_zero,List.set_cons_succ,i64_w,i32_w]
        rfl
       refine pure_ (i:=7) (N:=some 30) (v:=?_) (a':=?_) #[true,true,true,true,true,true,true,true] rfl rfl (any_of HT_.out (by kernel_rfl)) (fun _ _ _ h=>h) (Or.inl ⟨by rfl,?_⟩) ?_ ?_
       rotate_left
       ·intro w'
        go_simp
        with_reducible rfl
       rotate_left
       ·simp only [Act.put,List.setIfInBounds_toArray,List.set_cons_zero,List.set_cons_succ,i64_w,i32_w]
        rfl
       refine done_ (done_of HT_.out (by kernel_rfl)) ?_
       try go_wp2
       go_roundg k1
       case measure=>have:=HK1.out;omega
       case rel=>exact ⟨(wrap64 ((wrap64 (x1_1 + 1)) + 1)),(wrap64 (x5_1 + 1)),(by first|rfl|(simp;done)|(simp only [i64_w,i32_w];done)|(simp only [i64_w,i32_w];rfl)|(simp [*];done)|(simp [emp_bne,emp_beq];done)),(by first|rfl|(simp;done)|(simp only [i64_w,i32_w];done)|(simp only [i64_w,i32_w];rfl)|(simp [*];done)|(simp [emp_bne,emp_beq];done)),H',⟨by have:=HK1.out;omega⟩,⟨by repeat (first|(with_reducible first|exact HB.out|apply below_alloc|apply pw_below_drewN|apply below_drew1)|exact HB.out)⟩⟩
      ·rw [if_neg c7] at H
       have c7b0:(((rd_T57 l0 x5_1).f1).toList == t177.toList) = false:=beq_eq_false_iff_ne.mpr c7
       have c7b1:(((rd_T57 l0 x5_1).f1).toList != t177.toList) = true:=bne_iff_ne.mpr c7
       obtain rfl:=Option.some.inj H
       have p175:0 ≤ (x5_1:Int):=of_decide_eq_true (by first|(with_reducible assumption)|assumption)
       have q175:x5_1 < (l0.length:Int):=of_decide_eq_true (by first|(with_reducible assumption)|assumption)
       obtain ⟨ad175,e175,hx175_0,hx175_1⟩:=at_T57 HR0.out x5_1 p175 q175
       cases e175
       replace hx175_0:=(HB.out.cell (World.block_lt_of_cell? w _ hx175_0)).trans hx175_0
       replace hx175_1:=(HB.out.cell (World.block_lt_of_cell? w _ hx175_1)).trans hx175_1
       replace p175:=eq_true p175
       replace q175:=eq_true q175
       try go_wp2
       have n0_:=Aside0.mk (below_drew1 HB.out)
       clear HB
       have HB:=n0_
       clear n0_
       have p176:0 ≤ (x5_1:Int):=of_decide_eq_true (by first|(with_reducible assumption)|assumption)
       have q176:x5_1 < (l0.length:Int):=of_decide_eq_true (by first|(with_reducible assumption)|assumption)
       obtain ⟨ad176,e176,hx176_0,hx176_1⟩:=at_T57 HR0.out x5_1 p176 q176
       have hw176_1:=hx176_1
       have hw176_0:=hx176_0
       obtain rfl:ad175 = ad176:=(by injection e176)
       replace hx176_0:=(HB.out.cell (World.block_lt_of_cell? w _ hx176_0)).trans hx176_0
       replace hx176_1:=(HB.out.cell (World.block_lt_of_cell? w _ hx176_1)).trans hx176_1
       replace p176:=eq_true p176
       replace q176:=eq_true q176
       refine start_ (n:=8) (S:=fun w'=>w'.cell? (ad175.add ((x5_1).toNat * 2)) = some (.bool ((rd_T57 l0 x5_1).f0)) ∧ w'.cell? ⟨(ad175.add ((x5_1).toNat * 2)).block,(ad175.add ((x5_1).toNat * 2)).off + 1,none⟩ = some (.string ((rd_T57 l0 x5_1).f1))) (ds:=[]) #[false,false,false,false,false,false,false,false] (by kernel_rfl) rfl rfl ⟨((HB.out.cell (World.block_lt_of_cell? w _ hw176_0)).trans hw176_0),((HB.out.cell (World.block_lt_of_cell? w _ hw176_1)).trans hw176_1)⟩ (fun hHeld=>?_);refine with_tabW laws_heldRuleS.tab7 laws_heldRuleS.bits7 (fun HT_ HW_=>?_)
       generalize wr.drew = w10 at HB hx176_0 hx176_1 hHeld ⊢
       refine pure_ (i:=0) (N:=some 23) (v:=?_) (a':=?_) #[true,false,false,false,false,false,false,false] rfl rfl (any_of HT_.out (by kernel_rfl)) (fun _ _ _ h=>h) (Or.inl ⟨by rfl,?_⟩) ?_ ?_
       rotate_left
       ·intro w'
        go_simp
        with_reducible rfl
       rotate_left
       ·simp only [Act.put,List.setIfInBounds_toArray,List.set_cons_zero,List.set_cons_succ,i64_w,i32_w]
        rfl
       refine pure_ (i:=1) (N:=some 24) (v:=?_) (a':=?_) #[true,true,false,false,false,false,false,false] rfl rfl (any_of HT_.out (by kernel_rfl)) (fun _ _ _ h=>h) (Or.inl ⟨by rfl,?_⟩) ?_ ?_
       rotate_left
       ·intro w'
        go_simp
        with_reducible rfl
       rotate_left
       ·simp only [Act.put,List.setIfInBounds_toArray,List.set_cons_zero,List.set_cons_succ,i64_w,i32_w]
        rfl
       refine pure_ (i:=2) (N:=some 25) (v:=?_) (a':=?_) #[true,true,true,false,false,false,false,false] rfl rfl (any_of HT_.out (by kernel_rfl)) (fun _ _ _ h=>h) (Or.inl ⟨by rfl,?_⟩) ?_ ?_
       rotate_left
       ·intro w'
        go_simp
        with_reducible rfl
       rotate_left
       ·simp only [Act.put,List.setIfInBounds_toArray,List.set_cons_zero,List.set_cons_succ,i64_w,i32_w]
        rfl
       refine pure_ (i:=3) (N:=some 26) (v:=?_) (a':=?_) #[true,true,true,true,false,false,false,false] rfl rfl (any_of HT_.out (by kernel_rfl)) (fun _ _ _ h=>h) (Or.inl ⟨by rfl,?_⟩) ?_ ?_
       rotate_left
       ·intro w'
        go_simp
        with_reducible rfl
       rotate_left
       ·simp only [Act.put,List.setIfInBounds_toArray,List.set_cons_zero,List.set_cons_succ,i64_w,i32_w]
        rfl
       refine pure_ (i:=5) (N:=some 28) (v:=?_) (a':=?_) #[true,true,true,true,false,true,false,false] rfl rfl (any_of HT_.out (by kernel_rfl)) (fun _ _ _ h=>h) (Or.inl ⟨by rfl,?_⟩) ?_ ?_
       rotate_left
       ·intro w'
        go_simp
        with_reducible rfl
       rotate_left
       ·simp only [Act.put,List.setIfInBounds_toArray,List.set_cons_zero,List.set_cons_succ,i64_w,i32_w]
        rfl
       refine take_ (i:=4) (N:=some 27) (v:=?_) (a':=?_) #[true,true,true,true,true,true,false,false] rfl rfl (take_ofW HT_.out HW_.out (by kernel_rfl)) (fun _ _ _ h=>h) (Or.inl ⟨by rfl,?_⟩) hHeld ?_ ?_
       rotate_left
       ·rintro w' ⟨s0,s1⟩
        go_simp
        with_reducible rfl
       rotate_left
       ·simp only [Act.put,List.setIfInBounds_toArray,List.set_cons_zero,List.set_cons_succ,i64_w,i32_w]
        rfl
       refine one_ (i:=6) (N:=some 29) #[true,true,true,true,true,true,true,false] rfl rfl (one_of HT_.out (by kernel_rfl)) (by decide) (fun K hK=>?_)
       refine goes_ Try.func61 (by kernel_rfl) rfl #[.int .i64 (wrap64 (x1_1 + 1))] (by rfl) rfl rfl (by (try simp only [List.map_toArray,List.map_cons,List.map_nil]);first|done|rfl|(simp only [List.length_drop,List.length_take];rfl)) ?_
       with_reducible refine (laws_markText.calls k1 (wrap64 (x1_1 + 1)) t177 _ A6.out).mono ?_
       rintro e w11 ⟨rfl,hb⟩
       refine ⟨_,rfl,?_⟩
       have n0_:=Aside0.mk (below_step (by repeat (first|(with_reducible first|exact HB.out|apply below_alloc|apply pw_below_drewN|apply below_drew1)|exact HB.out)) hb)
       clear HB
       have HB:=n0_
       clear n0_
       (try clear hb)
       (try clear hb2)
       (try clear hk)
       (try clear hi)
       refine hK.out _ _ ⟨((HB.out.cell (World.block_lt_of_cell? w _ hw176_0)).trans hw176_0),((HB.out.cell (World.block_lt_of_cell? w _ hw176_1)).trans hw176_1)⟩ (fun hHeld=>?_)
       clear hK K
       refine norm_ (a':=?_) ?_ ?_
       rotate_left
       ·show Act.put _ (some 29) _ = _
        simp only [Act.put,List.setIfInBounds_toArray,List.set_cons_zero,List.set_cons_succ,i64_w,i32_w]
        rfl
       refine pure_ (i:=7) (N:=some 30) (v:=?_) (a':=?_) #[true,true,true,true,true,true,true,true] rfl rfl (any_of HT_.out (by kernel_rfl)) (fun _ _ _ h=>h) (Or.inl ⟨by rfl,?_⟩) ?_ ?_
       rotate_left
       ·intro w'
        go_simp
        with_reducible rfl
       rotate_left
       ·simp only [Act.put,List.setIfInBounds_toArray,List.set_cons_zero,List.set_cons_succ,i64_w,i32_w]
        rfl
       refine done_ (done_of HT_.out (by kernel_rfl)) ?_
       try go_wp2
       go_ret
       exact ⟨by first|rfl|(simp <;> rfl)|(simp [*] <;> rfl),by repeat (first|(with_reducible first|exact HB.out|apply below_alloc|apply pw_below_drewN|apply below_drew1)|exact HB.out)⟩
    ·rw [if_neg c4] at H
     exact absurd H (by simp)
   ·rw [if_neg c3] at H
    have c3b0:decide (x5_1 < (l0.length:Int)) = false:=decide_eq_false c3
    clear c3
    obtain rfl:=Option.some.inj H
    go_wp2
    go_ret
    exact ⟨by first|rfl|(simp <;> rfl)|(simp [*] <;> rfl),by repeat (first|(with_reducible first|exact HB.out|apply below_alloc|apply pw_below_drewN|apply below_drew1)|exact HB.out)⟩

/-! ### laws_heldGroup: function 27 -/
def laws_heldGroup.f (k:Nat) (l0_0:List ByteArray) (l0_1:List (S57)) (a0_2:Int) (a1:Int):Option (Int):=(laws_heldStringS.f k l0_0 a1).bind fun t179=>(if t179 < 0 then (some (-1)) else ((laws_heldRuleS.f k l0_1 t179).bind fun t180=>(if t180 < 0 then (some (-1)) else (some t180))))
theorem laws_heldGroup.mono:∀ a0 a1 a2 a3 k,LeO (laws_heldGroup.f k a0 a1 a2 a3) (laws_heldGroup.f (k + 1) a0 a1 a2 a3):=by
 intro a0 a1 a2 a3 k
 unfold laws_heldGroup.f
 repeat' first
   | (with_reducible exact laws_heldRuleS.mono _ _ _)
   | (with_reducible exact laws_heldStringS.mono _ _ _)
   | (with_reducible exact LeO.refl _)
   | (with_reducible exact LeO.none _)
   | (with_reducible refine LeO.ite ?_ ?_)
   | (with_reducible refine LeO.bind ?_ (fun _=>?_))
   | exact laws_heldRuleS.mono _ _ _
   | exact laws_heldStringS.mono _ _ _
   | exact LeO.none _
   | refine LeO.ite ?_ ?_
   | refine LeO.bind ?_ (fun _=>?_)
theorem laws_heldGroup.calls (k:Nat) (A0_0:Option Addr) (c0_0:Nat) (l0_0:List ByteArray) (A0_1:Option Addr) (c0_1:Nat) (l0_1:List (S57)) (a0_2:Int) (a1:Int) (r:Int) (w:World) (hr0_0:Kd.C Kd.string w A0_0 l0_0.length l0_0) (hc0_0:l0_0.length ≤ c0_0) (hr0_1:Kd.C k57 w A0_1 l0_1.length l0_1) (hc0_1:l0_1.length ≤ c0_1) (h:laws_heldGroup.f k l0_0 l0_1 a0_2 a1 = some r) :
  Calls Try.prog 27 #[.agg #[.slice A0_0 l0_0.length c0_0, .slice A0_1 l0_1.length c0_1, .int .i64 a0_2], .int .i64 a1] w fun e w'=>e = .returned (.int .i64 r) ∧ Below w.heap.size w w':=by
 have hu30:=Try.underlying30
 have HR0_0:=Aside0.mk hr0_0
 have HC0_0:=Aside0.mk hc0_0
 clear hr0_0 hc0_0
 have HR0_1:=Aside0.mk hr0_1
 have HC0_1:=Aside0.mk hc0_1
 clear hr0_1 hc0_1
 have HB:=Aside0.mk (Below.refl w.heap.size w)
 have H:((laws_heldStringS.f k l0_0 a1).bind fun t179=>(if t179 < 0 then (some (-1)) else ((laws_heldRuleS.f k l0_1 t179).bind fun t180=>(if t180 < 0 then (some (-1)) else (some t180))))) = some r:=h
 clear h
 replace H:=Option.bind_eq_some_iff.mp H
 obtain ⟨t179,A30,H⟩:=H
 replace H:(if t179 < 0 then (some (-1)) else ((laws_heldRuleS.f k l0_1 t179).bind fun t180=>(if t180 < 0 then (some (-1)) else (some t180)))) = some r:=H
 have A3:=Aside0.mk A30
 clear A30
 by_cases c4:t179 < 0
 ·rw [if_pos c4] at H
  have c4b0:decide (t179 < 0) = true:=decide_eq_true c4
  clear c4
  obtain rfl:=Option.some.inj H
  go_enter Try.func27,Try.ntmps27
  go_wp2_with (first|((with_reducible refine gate_dst (N:=2) rfl ?_);refine box_event ?hg (N:=2) ?hd (cs:=#[.slice A0_0 l0_0.length c0_0, .slice A0_1 l0_1.length c0_1, .int .i64 a0_2]) (t:=30) ?hr ?_;(case hd=>rfl);(case hg=>rfl);(case hr=>first|(go_simp;done)|(go_simp;rfl));intro gb178 hg w5 hbox hb;have n0_:=Aside0.mk (below_step (by repeat (first|(with_reducible first|exact HB.out|apply below_alloc|apply pw_below_drewN|apply below_drew1)|exact HB.out)) hb);have n1_:=Aside0.mk (hbox);have n2_:=Aside0.mk ((by rw [hg];exact (below_size (by repeat (first|(with_reducible first|exact HB.out|apply below_alloc|apply pw_below_drewN|apply below_drew1)|exact HB.out))):w.heap.size ≤ gb178));have n3_:=n2_;clear HB;have HB:=n0_;have BK178:=n1_;have GW178:=n2_;have GE178:=n3_;clear n0_ n1_ n2_ n3_;clear hb hbox hg;have hcz6_0:w5.cell? ⟨gb178,0,none⟩ = some (.slice A0_0 l0_0.length c0_0):=(blk_cell BK178.out 0).trans rfl;have hcz6_1:w5.cell? ⟨gb178,1,none⟩ = some (.slice A0_1 l0_1.length c0_1):=(blk_cell BK178.out 1).trans rfl;have hcz6_2:w5.cell? ⟨gb178,2,none⟩ = some (.int .i64 a0_2):=(blk_cell BK178.out 2).trans rfl;have hfz6_0:=blk_frozen BK178.out 0;have hfz6_1:=blk_frozen BK178.out 1;have hfz6_2:=blk_frozen BK178.out 2)|((with_reducible refine gate_callee (f:=47) rfl ?_);refine goesL_ (some 8) rfl rfl Try.func47 (by kernel_rfl) rfl #[.slice A0_0 l0_0.length c0_0, .int .i64 a1] rfl (by (try simp only [List.map_toArray,List.map_cons,List.map_nil]);first|done|rfl|(simp only [List.length_drop,List.length_take];rfl)) ?_;(with_reducible refine (laws_heldStringS.calls k _ _ l0_0 a1 t179 _ ?side1 ?side2 A3.out).mono ?_);(case side1=>repeat (first|exact (Kd.C_below HR0_0.out HB.out)|(with_reducible refine Kd.C_alloc ?_ _)|(with_reducible refine Kd.C_drewN ?_ _)|(with_reducible refine Kd.C_drew ?_)));(case side2=>exact HC0_0.out);rintro e w7 ⟨rfl,hb⟩;refine ⟨_,rfl,?_⟩;have n0_:=Aside0.mk (blk_below (g:=gb178) (o:=.cells #[.slice A0_0 l0_0.length c0_0, .slice A0_1 l0_1.length c0_1, .int .i64 a0_2] 30 (0,0)) (by (with_reducible repeat (first|refine blk_drewN ?_ _|refine blk_drew ?_|refine blk_alloc ?_ _));exact BK178.out) hb);have n1_:=Aside0.mk (below_step (by repeat (first|(with_reducible first|exact HB.out|apply below_alloc|apply pw_below_drewN|apply below_drew1|refine below_set ?_ GE178.out)|exact HB.out)) hb);clear BK178;clear HB;have BK178:=n0_;have HB:=n1_;clear n0_ n1_;(try clear hb);(try clear hb2);(try clear hk);(try clear hi)))
  go_ret
  exact ⟨by first|rfl|(simp <;> rfl)|(simp [*] <;> rfl),by repeat (first|(with_reducible first|exact HB.out|apply below_alloc|apply pw_below_drewN|apply below_drew1|refine below_set ?_ GE178.out)|exact HB.out)⟩
 ·rw [if_neg c4] at H
  have c4b0:decide (t179 < 0) = false:=decide_eq_false c4
  clear c4
  replace H:=Option.bind_eq_some_iff.mp H
  obtain ⟨t180,A80,H⟩:=H
  replace H:(if t180 < 0 then (some (-1)) else (some t180)) = some r:=H
  have A8:=Aside0.mk A80
  clear A80
  by_cases c9:t180 < 0
  ·rw [if_pos c9] at H
   have c9b0:decide (t180 < 0) = true:=decide_eq_true c9
   clear c9
   obtain rfl:=Option.some.inj H
   go_enter Try.func27,Try.ntmps27
   go_wp2_with (first|((with_reducible refine gate_dst (N:=2) rfl ?_);refine box_event ?hg (N:=2) ?hd (cs:=#[.slice A0_0 l0_0.length c0_0, .slice A0_1 l0_1.length c0_1, .int .i64 a0_2]) (t:=30) ?hr ?_;(case hd=>rfl);(case hg=>rfl);(case hr=>first|(go_simp;done)|(go_simp;rfl));intro gb178 hg w10 hbox hb;have n0_:=Aside0.mk (below_step (by repeat (first|(with_reducible first|exact HB.out|apply below_alloc|apply pw_below_drewN|apply below_drew1)|exact HB.out)) hb);have n1_:=Aside0.mk (hbox);have n2_:=Aside0.mk ((by rw [hg];exact (below_size (by repeat (first|(with_reducible first|exact HB.out|apply below_alloc|apply pw_below_drewN|apply below_drew1)|exact HB.out))):w.heap.size ≤ gb178));have n3_:=n2_;clear HB;have HB:=n0_;have BK178:=n1_;have GW178:=n2_;have GE178:=n3_;clear n0_ n1_ n2_ n3_;clear hb hbox hg;have hcz11_0:w10.cell? ⟨gb178,0,none⟩ = some (.slice A0_0 l0_0.length c0_0):=(blk_cell BK178.out 0).trans rfl;have hcz11_1:w10.cell? ⟨gb178,1,none⟩ = some (.slice A0_1 l0_1.length c0_1):=(blk_cell BK178.out 1).trans rfl;have hcz11_2:w10.cell? ⟨gb178,2,none⟩ = some (.int .i64 a0_2):=(blk_cell BK178.out 2).trans rfl;have hfz11_0:=blk_frozen BK178.out 0;have hfz11_1:=blk_frozen BK178.out 1;have hfz11_2:=blk_frozen BK178.out 2)|((with_reducible refine gate_callee (f:=47) rfl ?_);refine goesL_ (some 8) rfl rfl Try.func47 (by kernel_rfl) rfl #[.slice A0_0 l0_0.length c0_0, .int .i64 a1] rfl (by (try simp only [List.map_toArray,List.map_cons,List.map_nil]);first|done|rfl|(simp only [List.length_drop,List.length_take];rfl)) ?_;(with_reducible refine (laws_heldStringS.calls k _ _ l0_0 a1 t179 _ ?side1 ?side2 A3.out).mono ?_);(case side1=>repeat (first|exact (Kd.C_below HR0_0.out HB.out)|(with_reducible refine Kd.C_alloc ?_ _)|(with_reducible refine Kd.C_drewN ?_ _)|(with_reducible refine Kd.C_drew ?_)));(case side2=>exact HC0_0.out);rintro e w12 ⟨rfl,hb⟩;refine ⟨_,rfl,?_⟩;have n0_:=Aside0.mk (blk_below (g:=gb178) (o:=.cells #[.slice A0_0 l0_0.length c0_0, .slice A0_1 l0_1.length c0_1, .int .i64 a0_2] 30 (0,0)) (by (with_reducible repeat (first|refine blk_drewN ?_ _|refine blk_drew ?_|refine blk_alloc ?_ _));exact BK178.out) hb);have n1_:=Aside0.mk (below_step (by repeat (first|(with_reducible first|exact HB.out|apply below_alloc|apply pw_below_drewN|apply below_drew1|refine below_set ?_ GE178.out)|exact HB.out)) hb);clear BK178;clear HB;have BK178:=n0_;have HB:=n1_;clear n0_ n1_;(try clear hb);(try clear hb2);(try clear hk);(try clear hi);have hcz13_0:w12.cell? ⟨gb178,0,none⟩ = some (.slice A0_0 l0_0.length c0_0):=(blk_cell BK178.out 0).trans rfl;have hcz13_1:w12.cell? ⟨gb178,1,none⟩ = some (.slice A0_1 l0_1.length c0_1):=(blk_cell BK178.out 1).trans rfl;have hcz13_2:w12.cell? ⟨gb178,2,none⟩ = some (.int .i64 a0_2):=(blk_cell BK178.out 2).trans rfl;have hfz13_0:=blk_frozen BK178.out 0;have hfz13_1:=blk_frozen BK178.out 1;have hfz13_2:=blk_frozen BK178.out 2)|((with_reducible refine gate_callee (f:=48) rfl ?_);refine goesL_ (some 14) rfl rfl Try.func48 (by kernel_rfl) rfl #[.slice A0_1 l0_1.length c0_1, .int .i64 t179] rfl (by (try simp only [List.map_toArray,List.map_cons,List.map_nil]);first|done|rfl|(simp only [List.length_drop,List.length_take];rfl)) ?_;(with_reducible refine (laws_heldRuleS.calls k _ _ l0_1 t179 t180 _ ?side1 ?side2 A8.out).mono ?_);(case side1=>repeat (first|exact (Kd.C_below HR0_1.out HB.out)|(with_reducible refine Kd.C_alloc ?_ _)|(with_reducible refine Kd.C_drewN ?_ _)|(with_reducible refine Kd.C_drew ?_)));(case side2=>exact HC0_1.out);rintro e w14 ⟨rfl,hb⟩;refine ⟨_,rfl,?_⟩;have n0_:=Aside0.mk (blk_below (g:=gb178) (o:=.cells #[.slice A0_0 l0_0.length c0_0, .slice A0_1 l0_1.length c0_1, .int .i64 a0_2] 30 (0,0)) (by (with_reducible repeat (first|refine blk_drewN ?_ _|refine blk_drew ?_|refine blk_alloc ?_ _));exact BK178.out) hb);have n1_:=Aside0.mk (below_step (by repeat (first|(with_reducible first|exact HB.out|apply below_alloc|apply pw_below_drewN|apply below_drew1|refine below_set ?_ GE178.out)|exact HB.out)) hb);clear BK178;clear HB;have BK178:=n0_;have HB:=n1_;clear n0_ n1_;(try clear hb);(try clear hb2);(try clear hk);(try clear hi)))
   go_ret
   exact ⟨by first|rfl|(simp <;> rfl)|(simp [*] <;> rfl),by repeat (first|(with_reducible first|exact HB.out|apply below_alloc|apply pw_below_drewN|apply below_drew1|refine below_set ?_ GE178.out)|exact HB.out)⟩
  ·rw [if_neg c9] at H
   have c9b0:decide (t180 < 0) = false:=decide_eq_false c9
   clear c9
   obtain rfl:=Option.some.inj H
   go_enter Try.func27,Try.ntmps27
   go_wp2_with (first|((with_reducible refine gate_dst (N:=2) rfl ?_);refine box_event ?hg (N:=2) ?hd (cs:=#[.slice A0_0 l0_0.length c0_0, .slice A0_1 l0_1.length c0_1, .int .i64 a0_2]) (t:=30) ?hr ?_;(case hd=>rfl);(case hg=>rfl);(case hr=>first|(go_simp;done)|(go_simp;rfl));intro gb178 hg w15 hbox hb;have n0_:=Aside0.mk (below_step (by repeat (first|(with_reducible first|exact HB.out|apply below_alloc|apply pw_below_drewN|apply below_drew1)|exact HB.out)) hb);have n1_:=Aside0.mk (hbox);have n2_:=Aside0.mk ((by rw [hg];exact (below_size (by repeat (first|(with_reducible first|exact HB.out|apply below_alloc|apply pw_below_drewN|apply below_drew1)|exact HB.out))):w.heap.size ≤ gb178));have n3_:=n2_;clear HB;have HB:=n0_;have BK178:=n1_;have GW178:=n2_;have GE178:=n3_;clear n0_ n1_ n2_ n3_;clear hb hbox hg;have hcz16_0:w15.cell? ⟨gb178,0,none⟩ = some (.slice A0_0 l0_0.length c0_0):=(blk_cell BK178.out 0).trans rfl;have hcz16_1:w15.cell? ⟨gb178,1,none⟩ = some (.slice A0_1 l0_1.length c0_1):=(blk_cell BK178.out 1).trans rfl;have hcz16_2:w15.cell? ⟨gb178,2,none⟩ = some (.int .i64 a0_2):=(blk_cell BK178.out 2).trans rfl;have hfz16_0:=blk_frozen BK178.out 0;have hfz16_1:=blk_frozen BK178.out 1;have hfz16_2:=blk_frozen BK178.out 2)|((with_reducible refine gate_callee (f:=47) rfl ?_);refine goesL_ (some 8) rfl rfl Try.func47 (by kernel_rfl) rfl #[.slice A0_0 l0_0.length c0_0, .int .i64 a1] rfl (by (try simp only [List.map_toArray,List.map_cons,List.map_nil]);first|done|rfl|(simp only [List.length_drop,List.length_take];rfl)) ?_;(with_reducible refine (laws_heldStringS.calls k _ _ l0_0 a1 t179 _ ?side1 ?side2 A3.out).mono ?_);(case side1=>repeat (first|exact (Kd.C_below HR0_0.out HB.out)|(with_reducible refine Kd.C_alloc ?_ _)|(with_reducible refine Kd.C_drewN ?_ _)|(with_reducible refine Kd.C_drew ?_)));(case side2=>exact HC0_0.out);rintro e w17 ⟨rfl,hb⟩;refine ⟨_,rfl,?_⟩;have n0_:=Aside0.mk (blk_below (g:=gb178) (o:=.cells #[.slice A0_0 l0_0.length c0_0, .slice A0_1 l0_1.length c0_1, .int .i64 a0_2] 30 (0,0)) (by (with_reducible repeat (first|refine blk_drewN ?_ _|refine blk_drew ?_|refine blk_alloc ?_ _));exact BK178.out) hb);have n1_:=Aside0.mk (below_step (by repeat (first|(with_reducible first|exact HB.out|apply below_alloc|apply pw_below_drewN|apply below_drew1|refine below_set ?_ GE178.out)|exact HB.out)) hb);clear BK178;clear HB;have BK178:=n0_;have HB:=n1_;clear n0_ n1_;(try clear hb);(try clear hb2);(try clear hk);(try clear hi);have hcz18_0:w17.cell? ⟨gb178,0,none⟩ = some (.slice A0_0 l0_0.length c0_0):=(blk_cell BK178.out 0).trans rfl;have hcz18_1:w17.cell? ⟨gb178,1,none⟩ = some (.slice A0_1 l0_1.length c0_1):=(blk_cell BK178.out 1).trans rfl;have hcz18_2:w17.cell? ⟨gb178,2,none⟩ = some (.int .i64 a0_2):=(blk_cell BK178.out 2).trans rfl;have hfz18_0:=blk_frozen BK178.out 0;have hfz18_1:=blk_frozen BK178.out 1;have hfz18_2:=blk_frozen BK178.out 2)|((with_reducible refine gate_callee (f:=48) rfl ?_);refine goesL_ (some 14) rfl rfl Try.func48 (by kernel_rfl) rfl #[.slice A0_1 l0_1.length c0_1, .int .i64 t179] rfl (by (try simp only [List.map_toArray,List.map_cons,List.map_nil]);first|done|rfl|(simp only [List.length_drop,List.length_take];rfl)) ?_;(with_reducible refine (laws_heldRuleS.calls k _ _ l0_1 t179 t180 _ ?side1 ?side2 A8.out).mono ?_);(case side1=>repeat (first|exact (Kd.C_below HR0_1.out HB.out)|(with_reducible refine Kd.C_alloc ?_ _)|(with_reducible refine Kd.C_drewN ?_ _)|(with_reducible refine Kd.C_drew ?_)));(case side2=>exact HC0_1.out);rintro e w19 ⟨rfl,hb⟩;refine ⟨_,rfl,?_⟩;have n0_:=Aside0.mk (blk_below (g:=gb178) (o:=.cells #[.slice A0_0 l0_0.length c0_0, .slice A0_1 l0_1.length c0_1, .int .i64 a0_2] 30 (0,0)) (by (with_reducible repeat (first|refine blk_drewN ?_ _|refine blk_drew ?_|refine blk_alloc ?_ _));exact BK178.out) hb);have n1_:=Aside0.mk (below_step (by repeat (first|(with_reducible first|exact HB.out|apply below_alloc|apply pw_below_drewN|apply below_drew1|refine below_set ?_ GE178.out)|exact HB.out)) hb);clear BK178;clear HB;have BK178:=n0_;have HB:=n1_;clear n0_ n1_;(try clear hb);(try clear hb2);(try clear hk);(try clear hi)))
   go_ret
   exact ⟨by first|rfl|(simp <;> rfl)|(simp [*] <;> rfl),by repeat (first|(with_reducible first|exact HB.out|apply below_alloc|apply pw_below_drewN|apply below_drew1|refine below_set ?_ GE178.out)|exact HB.out)⟩

/-! ### spec_l2Of: function 35 -/
mutual
def spec_l2Of.l0:Nat → List (S30) → ByteArray → Bool → Int → List ByteArray → List (S57) → Int → Option (List ByteArray × (List (S57)) × Int × Bool)
 | 0,_,_,_,_,_,_,_=>none
 | k + 1,x0,x1,x7,x8,x189000,x189001,x189002=>if x8 < (x0.length:Int) then (spec_l2Of.l1 k x0 x1 x7 x8 false 0 x189000 x189001 x189002) else (some (x189000,x189001,x189002,x7))
def spec_l2Of.l1:Nat → List (S30) → ByteArray → Bool → Int → Bool → Int → List ByteArray → List (S57) → Int → Option (List ByteArray × (List (S57)) × Int × Bool)
 | 0,_,_,_,_,_,_,_,_,_=>none
 | k + 1,x0,x1,x7,x8,x9,x10,x189000,x189001,x189002=>if 0 ≤ x8 then (if x8 < (x0.length:Int) then (if x10 < (((rd_T30 x0 x8).f0).length:Int) then (if x9 = true then (spec_l2Of.l1 k x0 x1 x7 x8 true (wrap64 (x10 + 1)) x189000 x189001 x189002) else (if 0 ≤ x10 then (spec_l2Of.l1 k x0 x1 x7 x8 ((rdOf ByteArray.empty ((rd_T30 x0 x8).f0) x10).toList == x1.toList) (wrap64 (x10 + 1)) x189000 x189001 x189002) else (none))) else (if x9 = true then (if x189001.length + ((rd_T30 x0 x8).f1).length < 5864062014805 then (spec_l2Of.l0 k x0 x1 true (wrap64 (x8 + 1)) x189000 (x189001 ++ ((rd_T30 x0 x8).f1)) (mx x189002 ((rd_T30 x0 x8).f2))) else (none)) else (spec_l2Of.l0 k x0 x1 x7 (wrap64 (x8 + 1)) x189000 x189001 x189002))) else (none)) else (none)
end
def spec_l2Of.f (k:Nat) (l0:List (S30)) (a1:ByteArray):Option (List ByteArray × (List (S57)) × Int × Bool):=spec_l2Of.l0 k l0 a1 false 0 (([a1]:List ByteArray)) (([]:List (S57))) 0
theorem spec_l2Of.mono_l:∀ k,(∀ y0 y1 y2 y3 y4 y5 y6,LeO (spec_l2Of.l0 k y0 y1 y2 y3 y4 y5 y6) (spec_l2Of.l0 (k + 1) y0 y1 y2 y3 y4 y5 y6)) ∧ (∀ y0 y1 y2 y3 y4 y5 y6 y7 y8,LeO (spec_l2Of.l1 k y0 y1 y2 y3 y4 y5 y6 y7 y8) (spec_l2Of.l1 (k + 1) y0 y1 y2 y3 y4 y5 y6 y7 y8))
 | 0=>⟨fun _ _ _ _ _ _ _ r h=>by simp [spec_l2Of.l0] at h,fun _ _ _ _ _ _ _ _ _ r h=>by simp [spec_l2Of.l1] at h⟩
 | k + 1=>by
  obtain ⟨ih0,ih1⟩:=spec_l2Of.mono_l k
  refine ⟨?_,?_⟩
  ·intro y0 y1 y2 y3 y4 y5 y6
   unfold spec_l2Of.l0
   repeat' first
   | (with_reducible exact ih0 _ _ _ _ _ _ _)
   | (with_reducible exact ih1 _ _ _ _ _ _ _ _ _)
   | (with_reducible exact LeO.refl _)
   | (with_reducible exact LeO.none _)
   | (with_reducible refine LeO.ite ?_ ?_)
   | (with_reducible refine LeO.bind ?_ (fun _=>?_))
   | exact ih0 _ _ _ _ _ _ _
   | exact ih1 _ _ _ _ _ _ _ _ _
   | exact LeO.none _
   | refine LeO.ite ?_ ?_
   | refine LeO.bind ?_ (fun _=>?_)
  ·intro y0 y1 y2 y3 y4 y5 y6 y7 y8
   unfold spec_l2Of.l1
   repeat' first
   | (with_reducible exact ih0 _ _ _ _ _ _ _)
   | (with_reducible exact ih1 _ _ _ _ _ _ _ _ _)
   | (with_reducible exact LeO.refl _)
   | (with_reducible exact LeO.none _)
   | (with_reducible refine LeO.ite ?_ ?_)
   | (with_reducible refine LeO.bind ?_ (fun _=>?_))
   | exact ih0 _ _ _ _ _ _ _
   | exact ih1 _ _ _ _ _ _ _ _ _
   | exact LeO.none _
   | refine LeO.ite ?_ ?_
   | refine LeO.bind ?_ (fun _=>?_)
theorem spec_l2Of.mono:∀ a0 a1 k,LeO (spec_l2Of.f k a0 a1) (spec_l2Of.f (k + 1) a0 a1):=by
 intro a0 a1 k
 obtain ⟨ih0,ih1⟩:=spec_l2Of.mono_l k
 unfold spec_l2Of.f
 repeat' first
   | (with_reducible exact ih0 _ _ _ _ _ _ _)
   | (with_reducible exact ih1 _ _ _ _ _ _ _ _ _)
   | (with_reducible exact LeO.refl _)
   | (with_reducible exact LeO.none _)
   | (with_reducible refine LeO.ite ?_ ?_)
   | (with_reducible refine LeO.bind ?_ (fun _=>?_))
   | exact ih0 _ _ _ _ _ _ _
   | exact ih1 _ _ _ _ _ _ _ _ _
   | exact LeO.none _
   | refine LeO.ite ?_ ?_
   | refine LeO.bind ?_ (fun _=>?_)
def spec_l2Of.T13:Bool × List (List Nat × List Nat):=(true,[([],[]),([0],[0]),([],[]),([],[]),([2,3],[2,3]),([4],[4]),([5],[5]),([1,6],[1,6]),([0,1,2,3,4,5,6,7],[]),([8,7,7,0,1,2,3,4,5,6,7],[7,8])])
def spec_l2Of.B13:List Nat:=[0,1,0,0,12,28,60,127,255,511]
theorem spec_l2Of.tab13:rtab .any (opsOf Try.f35 13) = spec_l2Of.T13:=by kernel_rfl
theorem spec_l2Of.bits13:waitsOk spec_l2Of.T13.2 spec_l2Of.B13 = true:=by kernel_rfl
def spec_l2Of.T14:Bool × List (List Nat × List Nat):=(true,[([],[]),([0],[0]),([],[]),([],[]),([2,3],[2,3]),([4],[4]),([5],[5]),([1,6],[1,6]),([0,1,2,3,4,5,6,7],[]),([8,7,0,1,2,3,4,5,6,7],[7,8])])
def spec_l2Of.B14:List Nat:=[0,1,0,0,12,28,60,127,255,511]
theorem spec_l2Of.tab14:rtab .any (opsOf Try.f35 14) = spec_l2Of.T14:=by kernel_rfl
theorem spec_l2Of.bits14:waitsOk spec_l2Of.T14.2 spec_l2Of.B14 = true:=by kernel_rfl
theorem spec_l2Of.calls (k:Nat) (A0:Option Addr) (c0:Nat) (l0:List (S30)) (a1:ByteArray) (r1:List ByteArray) (r2:List (S57)) (r3:Int) (r4:Bool) (w:World) (hr0:Kd.C k30 w A0 l0.length l0) (hc0:l0.length ≤ c0) (h:spec_l2Of.f k l0 a1 = some (r1,r2,r3,r4)) :
  Calls Try.prog 35 #[.slice A0 l0.length c0, .string a1] w fun e w'=>∃ v0_ v1_:Value,e = .returned (.tuple #[.agg #[v0_,v1_, .int .i64 r3], .bool r4]) ∧ Kd.R Kd.string 9 w' w.heap.size (fun _=>True) v0_ r1 ∧ Kd.R k57 57 w' w.heap.size (fun _=>True) v1_ r2 ∧ Below w.heap.size w w':=by
 have hu30:=Try.underlying30
 have HR0:=Aside0.mk hr0
 have HC0:=Aside0.mk hc0
 clear hr0 hc0
 have HB:=Aside0.mk (Below.refl w.heap.size w)
 have H:(spec_l2Of.l0 k l0 a1 false 0 (([a1]:List ByteArray)) (([]:List (S57))) 0) = some (r1,r2,r3,r4):=h
 clear h
 obtain ⟨y182,hy182⟩:∃ y_:List ByteArray,y_ = (([a1]:List ByteArray)):=⟨_,rfl⟩
 replace H:(spec_l2Of.l0 k l0 a1 false 0 y182 (([]:List (S57))) 0) = some (r1,r2,r3,r4):=by first|(rw [hy182];with_reducible exact H)|(have H2_:=(Option.bind_some _ _).symm.trans H;rw [hy182];with_reducible exact H2_)|(have H2_:=(Option.bind_some _ _).symm.trans H;with_reducible exact H2_)|with_reducible exact H|(rw [hy182];exact H)|exact H
 have Ny182:=Aside0.mk hy182
 clear hy182
 obtain ⟨y185,hy185⟩:∃ y_:List (S57),y_ = (([]:List (S57))):=⟨_,rfl⟩
 replace H:(spec_l2Of.l0 k l0 a1 false 0 y182 y185 0) = some (r1,r2,r3,r4):=by first|(rw [hy185];with_reducible exact H)|(have H2_:=(Option.bind_some _ _).symm.trans H;rw [hy185];with_reducible exact H2_)|(have H2_:=(Option.bind_some _ _).symm.trans H;with_reducible exact H2_)|with_reducible exact H|(rw [hy185];exact H)|exact H
 have Ny185:=Aside0.mk hy185
 clear hy185
 have H':=Aside0.mk H
 clear H
 go_enter Try.func35,Try.ntmps35
 go_wp2_with (first|((with_reducible refine gate_dst (N:=4) rfl ?_);refine box_event ?hg (N:=4) ?hd (cs:=#[.slice none 0 0, .slice none 0 0, .int .i64 0]) (t:=30) ?hr ?_;(case hd=>rfl);(case hg=>rfl);(case hr=>first|(go_simp;done)|(go_simp;rfl));intro gb181 hg w3 hbox hb;have n0_:=Aside0.mk (below_step (by repeat (first|(with_reducible first|exact HB.out|apply below_alloc|apply pw_below_drewN|apply below_drew1)|exact HB.out)) hb);have n1_:=Aside0.mk (hbox);have n2_:=Aside0.mk ((by rw [hg];exact (below_size (by repeat (first|(with_reducible first|exact HB.out|apply below_alloc|apply pw_below_drewN|apply below_drew1)|exact HB.out))):w.heap.size ≤ gb181));have n3_:=n2_;clear HB;have HB:=n0_;have BK181:=n1_;have GW181:=n2_;have GE181:=n3_;clear n0_ n1_ n2_ n3_;clear hb hbox hg)|((with_reducible refine gate_dst (N:=12) rfl ?_);refine Kd.R_lit Kd.string _ 9 ?hg (N:=12) ?hd (xs:=([a1]:List ByteArray)) (inner:=[.string a1]) (ok:=fun _=>True) (okp:=fun _=>True) ?hr ?hp (fun _ hk=>hk) trivial (Below.refl _ _) (Nat.le_refl _) (by simp) ?_;(case hd=>rfl);(case hg=>rfl);(case hr=>first|(go_simp;done)|(go_simp;rfl));(case hp=>exact (Reps.one (show Kd.M Kd.string _ _ _ a1 [.string a1] from rfl) (Reps.none _ _)));intro v183 w4 ho5 hb hg_ hnew_;clear hg_ hnew_;(first|rw [← Ny182.out] at ho5|(simp only [Int.reduceToNat] at ho5;rw [← Ny182.out] at ho5));have n0_:=Aside0.mk (Kd.R_lower ho5 (below_size (by repeat (first|(with_reducible first|exact HB.out|apply below_alloc|apply pw_below_drewN|apply below_drew1|refine below_set ?_ GE181.out)|exact HB.out))));have n1_:=Aside0.mk (blk_below (g:=gb181) (o:=.cells #[.slice none 0 0, .slice none 0 0, .int .i64 0] 30 (0,0)) (by (with_reducible repeat (first|refine blk_drewN ?_ _|refine blk_drew ?_|refine blk_alloc ?_ _));exact BK181.out) hb);have n2_:=Aside0.mk (below_step (by repeat (first|(with_reducible first|exact HB.out|apply below_alloc|apply pw_below_drewN|apply below_drew1|refine below_set ?_ GE181.out)|exact HB.out)) hb);clear BK181;clear HB;have HO184:=n0_;have BK181:=n1_;have HB:=n2_;clear n0_ n1_ n2_;clear hb ho5)|((with_reducible refine gate_dst (N:=13) rfl ?_);refine Kd.R_lit k57 _ 57 ?hg (N:=13) ?hd (xs:=([]:List (S57))) (inner:=[]) (ok:=fun _=>True) (okp:=fun _=>True) ?hr ?hp (fun _ hk=>hk) trivial (Below.refl _ _) (Nat.le_refl _) (by simp) ?_;(case hd=>rfl);(case hg=>rfl);(case hr=>first|(go_simp;done)|(go_simp;rfl));(case hp=>exact (Reps.none _ _));intro v186 w6 ho7 hb hg_ hnew_;clear hg_ hnew_;(first|rw [← Ny185.out] at ho7|(simp only [Int.reduceToNat] at ho7;rw [← Ny185.out] at ho7));have n0_:=Aside0.mk (Kd.R_below (by (with_reducible repeat (first|apply Kd.R_alloc|apply Kd.R_drewN|apply Kd.R_drew));exact HO184.out) hb);have n1_:=Aside0.mk (Kd.R_lower ho7 (below_size (by repeat (first|(with_reducible first|exact HB.out|apply below_alloc|apply pw_below_drewN|apply below_drew1|refine below_set ?_ GE181.out)|exact HB.out))));have n2_:=Aside0.mk (blk_below (g:=gb181) (o:=.cells #[.slice none 0 0, .slice none 0 0, .int .i64 0] 30 (0,0)) (by (with_reducible repeat (first|refine blk_drewN ?_ _|refine blk_drew ?_|refine blk_alloc ?_ _));exact BK181.out) hb);have n3_:=Aside0.mk (below_step (by repeat (first|(with_reducible first|exact HB.out|apply below_alloc|apply pw_below_drewN|apply below_drew1|refine below_set ?_ GE181.out)|exact HB.out)) hb);clear HO184;clear BK181;clear HB;have HO184:=n0_;have HO187:=n1_;have BK181:=n2_;have HB:=n3_;clear n0_ n1_ n2_ n3_;clear hb ho7;obtain ⟨Ao8,co8,eo8⟩:=Kd.R_slice HO187.out;subst eo8;obtain ⟨Ao9,co9,eo9⟩:=Kd.R_slice HO184.out;subst eo9)|((with_reducible refine gate_dst (N:=6) rfl ?_);refine box_event ?hg (N:=6) ?hd (cs:=#[.slice none 0 0, .slice none 0 0, .int .i64 0]) (t:=30) ?hr ?_;(case hd=>rfl);(case hg=>rfl);(case hr=>first|(go_simp;done)|(go_simp;rfl));intro gb188 hg w10 hbox hb;have n0_:=Aside0.mk (Kd.R_below (by (with_reducible repeat (first|apply Kd.R_alloc|apply Kd.R_drewN|apply Kd.R_drew));exact HO184.out) hb);have n1_:=Aside0.mk (Kd.R_below (by (with_reducible repeat (first|apply Kd.R_alloc|apply Kd.R_drewN|apply Kd.R_drew));exact HO187.out) hb);have n2_:=Aside0.mk (blk_below (g:=gb181) (o:=.cells #[.slice none 0 0, .slice none 0 0, .int .i64 0] 30 (0,0)) (by (with_reducible repeat (first|refine blk_drewN ?_ _|refine blk_drew ?_|refine blk_alloc ?_ _));exact BK181.out) hb);have n3_:=Aside0.mk (below_step (by repeat (first|(with_reducible first|exact HB.out|apply below_alloc|apply pw_below_drewN|apply below_drew1|refine below_set ?_ GE181.out)|exact HB.out)) hb);have n4_:=Aside0.mk (hbox);have n5_:=Aside0.mk ((by rw [hg];exact (below_size (by repeat (first|(with_reducible first|exact HB.out|apply below_alloc|apply pw_below_drewN|apply below_drew1|refine below_set ?_ GE181.out)|exact HB.out))):w.heap.size ≤ gb188));have n6_:=n5_;have n7_:=Aside0.mk ((by rw [hg];exact Nat.ne_of_lt (blk_lt (g:=gb181) (o:=.cells #[.slice none 0 0, .slice none 0 0, .int .i64 0] 30 (0,0)) (by (with_reducible repeat (first|refine blk_drewN ?_ _|refine blk_drew ?_|refine blk_alloc ?_ _));exact BK181.out)):gb181 ≠ gb188));have n8_:=Aside0.mk ((by rw [hg];exact Nat.ne_of_gt (blk_lt (g:=gb181) (o:=.cells #[.slice none 0 0, .slice none 0 0, .int .i64 0] 30 (0,0)) (by (with_reducible repeat (first|refine blk_drewN ?_ _|refine blk_drew ?_|refine blk_alloc ?_ _));exact BK181.out)):gb188 ≠ gb181));clear HO184;clear HO187;clear BK181;clear HB;have HO184:=n0_;have HO187:=n1_;have BK181:=n2_;have HB:=n3_;have BK188:=n4_;have GW188:=n5_;have GE188:=n6_;have NB181_188:=n7_;have NB188_181:=n8_;clear n0_ n1_ n2_ n3_ n4_ n5_ n6_ n7_ n8_;clear hb hbox hg;have hnb11:=NB188_181.out;have hnc11:=NB181_188.out;have hcz12_0:w10.cell? ⟨gb188,0,none⟩ = some (.slice none 0 0):=(blk_cell BK188.out 0).trans rfl;have hcz12_1:w10.cell? ⟨gb188,1,none⟩ = some (.slice none 0 0):=(blk_cell BK188.out 1).trans rfl;have hcz12_2:w10.cell? ⟨gb188,2,none⟩ = some (.int .i64 0):=(blk_cell BK188.out 2).trans rfl;have hfz12_0:=blk_frozen BK188.out 0;have hfz12_1:=blk_frozen BK188.out 1;have hfz12_2:=blk_frozen BK188.out 2))
 go_loopg [7,8] k (fun kq v7 v8 w'=>∃ (x7_1:Bool) (x8_1:Int) (x189001_1:List (S57)) (x189002_1:Int) (u189001:Value),v7 = .bool x7_1 ∧ v8 = .int .i64 x8_1 ∧ Aside0 (spec_l2Of.l0 kq l0 a1 x7_1 x8_1 y182 x189001_1 x189002_1 = some (r1,r2,r3,r4)) ∧ Aside0 (kq ≤ k) ∧ Aside0 (Kd.R Kd.string 9 w' w.heap.size (fun _=>True) (.slice Ao9 y182.length co9) y182) ∧ Aside0 (Kd.R k57 57 w' w.heap.size (fun _=>True) u189001 x189001_1) ∧ Aside0 (w'.heap[gb181]? = some (.cells #[(.slice none 0 0),(.slice none 0 0), .int .i64 0] 30 (0,0))) ∧ Aside0 (w'.heap[gb188]? = some (.cells #[(.slice Ao9 y182.length co9),u189001, .int .i64 x189002_1] 30 (0,0))) ∧ Aside0 (Below w.heap.size w w'))
 case atStart=>exact ⟨(false),(0),(y185),(0),(.slice Ao8 y185.length co8),(by first|rfl|(simp;done)|(simp only [i64_w,i32_w];done)|(simp only [i64_w,i32_w];rfl)|(simp [*];done)|(simp [emp_bne,emp_beq];done)),(by first|rfl|(simp;done)|(simp only [i64_w,i32_w];done)|(simp only [i64_w,i32_w];rfl)|(simp [*];done)|(simp [emp_bne,emp_beq];done)),H',⟨Nat.le_refl _⟩,⟨by (with_reducible repeat (first|apply Kd.R_alloc|apply Kd.R_drewN|apply Kd.R_drew));exact Kd.R_mono (Kd.R_far (p:=⟨gb188,2,none⟩) (Kd.R_far (p:=⟨gb188,1,none⟩) (Kd.R_far (p:=⟨gb188,0,none⟩) (Kd.R_types HO184.out BK188.out (by decide)) (fun _ hk=>hk.2) (.slice Ao9 y182.length co9)) (fun _ hk=>hk.2) (.slice Ao8 y185.length co8)) (fun _ hk=>hk.2) (.int .i64 0)) (fun _ hk=>trivial)⟩,⟨by (with_reducible repeat (first|apply Kd.R_alloc|apply Kd.R_drewN|apply Kd.R_drew));exact Kd.R_mono (Kd.R_far (p:=⟨gb188,2,none⟩) (Kd.R_far (p:=⟨gb188,1,none⟩) (Kd.R_far (p:=⟨gb188,0,none⟩) (Kd.R_types HO187.out BK188.out (by decide)) (fun _ hk=>hk.2) (.slice Ao9 y182.length co9)) (fun _ hk=>hk.2) (.slice Ao8 y185.length co8)) (fun _ hk=>hk.2) (.int .i64 0)) (fun _ hk=>trivial)⟩,⟨by (with_reducible repeat (first|refine blk_drewN ?_ _|refine blk_drew ?_|refine blk_alloc ?_ _));refine blk_far ?_ NB181_188.out _;(with_reducible repeat (first|refine blk_drewN ?_ _|refine blk_drew ?_|refine blk_alloc ?_ _));refine blk_far ?_ NB181_188.out _;(with_reducible repeat (first|refine blk_drewN ?_ _|refine blk_drew ?_|refine blk_alloc ?_ _));refine blk_far ?_ NB181_188.out _;(with_reducible repeat (first|refine blk_drewN ?_ _|refine blk_drew ?_|refine blk_alloc ?_ _));exact BK181.out⟩,⟨by (with_reducible repeat (first|refine blk_drewN ?_ _|refine blk_drew ?_|refine blk_alloc ?_ _));refine blk_put (cs:=#[.slice Ao9 y182.length co9, .slice Ao8 y185.length co8, .int .i64 0]) ?_ 2 _ rfl;(with_reducible repeat (first|refine blk_drewN ?_ _|refine blk_drew ?_|refine blk_alloc ?_ _));refine blk_put (cs:=#[.slice Ao9 y182.length co9, .slice none 0 0, .int .i64 0]) ?_ 1 _ rfl;(with_reducible repeat (first|refine blk_drewN ?_ _|refine blk_drew ?_|refine blk_alloc ?_ _));refine blk_put (cs:=#[.slice none 0 0, .slice none 0 0, .int .i64 0]) ?_ 0 _ rfl;(with_reducible repeat (first|refine blk_drewN ?_ _|refine blk_drew ?_|refine blk_alloc ?_ _));exact BK188.out⟩,⟨by repeat (first|(with_reducible first|exact HB.out|apply below_alloc|apply pw_below_drewN|apply below_drew1|refine below_set ?_ GE181.out|refine below_set ?_ GE188.out)|exact HB.out)⟩⟩
 case round =>
  clear H'
  try clear c1
  try clear p2
  try clear c3
  try clear c11
  try clear hcz12_0
  try clear hcz12_1
  try clear hcz12_2
  try clear hfz12_0
  try clear hfz12_1
  try clear hfz12_2
  obtain ⟨x7_1,x8_1,x189001_1,x189002_1,u189001,rfl,rfl,HA,HK1,HO_189000,HO_189001,BK181,BK188,HB⟩:=hrel
  cases gk with
  | zero=>exact absurd HA.out (by simp [spec_l2Of.l0])
  | succ k1 =>
   have H:=HA.out
   clear HA
   simp only [spec_l2Of.l0] at H
   by_cases c13:x8_1 < (l0.length:Int)
   ·rw [if_pos c13] at H
    have c13b0:decide (x8_1 < (l0.length:Int)) = true:=decide_eq_true c13
    clear c13
    have H':=Aside0.mk H
    clear H
    go_wp2
    go_loopg [9,10] k1 (fun kq v9 v10 w'=>∃ (x9_2:Bool) (x10_2:Int),v9 = .bool x9_2 ∧ v10 = .int .i64 x10_2 ∧ Aside0 (spec_l2Of.l1 kq l0 a1 x7_1 x8_1 x9_2 x10_2 y182 x189001_1 x189002_1 = some (r1,r2,r3,r4)) ∧ Aside0 (kq ≤ k1) ∧ Aside0 (Kd.R Kd.string 9 w' w.heap.size (fun _=>True) (.slice Ao9 y182.length co9) y182) ∧ Aside0 (Kd.R k57 57 w' w.heap.size (fun _=>True) u189001 x189001_1) ∧ Aside0 (w'.heap[gb181]? = some (.cells #[(.slice none 0 0),(.slice none 0 0), .int .i64 0] 30 (0,0))) ∧ Aside0 (w'.heap[gb188]? = some (.cells #[(.slice Ao9 y182.length co9),u189001, .int .i64 x189002_1] 30 (0,0))) ∧ Aside0 (Below w.heap.size w w'))
    case atStart=>exact ⟨(false),(0),(by first|rfl|(simp;done)|(simp only [i64_w,i32_w];done)|(simp only [i64_w,i32_w];rfl)|(simp [*];done)|(simp [emp_bne,emp_beq];done)),(by first|rfl|(simp;done)|(simp only [i64_w,i32_w];done)|(simp only [i64_w,i32_w];rfl)|(simp [*];done)|(simp [emp_bne,emp_beq];done)),H',⟨Nat.le_refl _⟩,⟨by (with_reducible repeat (first|apply Kd.R_alloc|apply Kd.R_drewN|apply Kd.R_drew));exact HO_189000.out⟩,⟨by (with_reducible repeat (first|apply Kd.R_alloc|apply Kd.R_drewN|apply Kd.R_drew));exact HO_189001.out⟩,⟨by (with_reducible repeat (first|refine blk_drewN ?_ _|refine blk_drew ?_|refine blk_alloc ?_ _));exact BK181.out⟩,⟨by (with_reducible repeat (first|refine blk_drewN ?_ _|refine blk_drew ?_|refine blk_alloc ?_ _));exact BK188.out⟩,⟨by repeat (first|(with_reducible first|exact HB.out|apply below_alloc|apply pw_below_drewN|apply below_drew1|refine below_set ?_ GE181.out|refine below_set ?_ GE188.out)|exact HB.out)⟩⟩
    case round =>
     clear H'
     try clear c1
     try clear p2
     try clear c3
     try clear c11
     try clear c13
     try clear c13b0
     try clear hcz12_0
     try clear hcz12_1
     try clear hcz12_2
     try clear hfz12_0
     try clear hfz12_1
     try clear hfz12_2
     try clear p2
     obtain ⟨x9_2,x10_2,rfl,rfl,HA,HK2,HO_189000,HO_189001,BK181,BK188,HB⟩:=hrel
     cases gk with
     | zero=>exact absurd HA.out (by simp [spec_l2Of.l1])
     | succ k2 =>
      have H:=HA.out
      clear HA
      simp only [spec_l2Of.l1] at H
      by_cases c14:0 ≤ x8_1
      ·rw [if_pos c14] at H
       have c14b0:decide (0 ≤ x8_1) = true:=decide_eq_true c14
       clear c14
       by_cases c15:x8_1 < (l0.length:Int)
       ·rw [if_pos c15] at H
        have c15b0:decide (x8_1 < (l0.length:Int)) = true:=decide_eq_true c15
        clear c15
        by_cases c16:x10_2 < (((rd_T30 l0 x8_1).f0).length:Int)
        ·rw [if_pos c16] at H
         have c16b0:decide (x10_2 < (((rd_T30 l0 x8_1).f0).length:Int)) = true:=decide_eq_true c16
         clear c16
         by_cases c17:x9_2 = true
         ·subst c17
          have H1:(spec_l2Of.l1 k2 l0 a1 x7_1 x8_1 true (wrap64 (x10_2 + 1)) y182 x189001_1 x189002_1) = some (r1,r2,r3,r4):=by rw [if_pos rfl] at H;exact H
          clear H
          have H:=H1
          clear H1
          have H':=Aside0.mk H
          clear H
          have p189:0 ≤ (x8_1:Int):=of_decide_eq_true (by first|(with_reducible assumption)|assumption)
          have q189:x8_1 < (l0.length:Int):=of_decide_eq_true (by first|(with_reducible assumption)|assumption)
          obtain ⟨ad189,A189_0,c189_0,A189_1,c189_1,e189,hx189_0,hx189_1,hx189_2,hl189_0,hi189_0,hl189_1,hi189_1⟩:=at_T30 HR0.out x8_1 p189 q189
          cases e189
          replace hx189_0:=(HB.out.cell (World.block_lt_of_cell? w _ hx189_0)).trans hx189_0
          replace hx189_1:=(HB.out.cell (World.block_lt_of_cell? w _ hx189_1)).trans hx189_1
          replace hx189_2:=(HB.out.cell (World.block_lt_of_cell? w _ hx189_2)).trans hx189_2
          have HR189_0:=Aside0.mk hi189_0
          have HC189_0:=Aside0.mk hl189_0
          clear hi189_0 hl189_0
          have HR189_1:=Aside0.mk hi189_1
          have HC189_1:=Aside0.mk hl189_1
          clear hi189_1 hl189_1
          replace p189:=eq_true p189
          replace q189:=eq_true q189
          go_wp2
          go_roundg k2
          case measure=>have:=HK1.out;have:=HK2.out;omega
          case rel=>exact ⟨(true),(wrap64 (x10_2 + 1)),(by first|rfl|(simp;done)|(simp only [i64_w,i32_w];done)|(simp only [i64_w,i32_w];rfl)|(simp [*];done)|(simp [emp_bne,emp_beq];done)),(by first|rfl|(simp;done)|(simp only [i64_w,i32_w];done)|(simp only [i64_w,i32_w];rfl)|(simp [*];done)|(simp [emp_bne,emp_beq];done)),H',⟨by have:=HK1.out;have:=HK2.out;omega⟩,⟨by (with_reducible repeat (first|apply Kd.R_alloc|apply Kd.R_drewN|apply Kd.R_drew));exact HO_189000.out⟩,⟨by (with_reducible repeat (first|apply Kd.R_alloc|apply Kd.R_drewN|apply Kd.R_drew));exact HO_189001.out⟩,⟨by (with_reducible repeat (first|refine blk_drewN ?_ _|refine blk_drew ?_|refine blk_alloc ?_ _));exact BK181.out⟩,⟨by (with_reducible repeat (first|refine blk_drewN ?_ _|refine blk_drew ?_|refine blk_alloc ?_ _));exact BK188.out⟩,⟨by repeat (first|(with_reducible first|exact HB.out|apply below_alloc|apply pw_below_drewN|apply below_drew1|refine below_set ?_ GE181.out|refine below_set ?_ GE188.out)|exact HB.out)⟩⟩
         ·replace c17:=Bool.eq_false_iff.mpr c17
          subst c17
          have H1:(if 0 ≤ x10_2 then (spec_l2Of.l1 k2 l0 a1 x7_1 x8_1 ((rdOf ByteArray.empty ((rd_T30 l0 x8_1).f0) x10_2).toList == a1.toList) (wrap64 (x10_2 + 1)) y182 x189001_1 x189002_1) else (none)) = some (r1,r2,r3,r4):=by rw [if_neg (show ¬ (false = true) by decide)] at H;exact H
          clear H
          have H:=H1
          clear H1
          by_cases c18:0 ≤ x10_2
          ·rw [if_pos c18] at H
           have c18b0:decide (0 ≤ x10_2) = true:=decide_eq_true c18
           clear c18
           have H':=Aside0.mk H
           clear H
           have p189:0 ≤ (x8_1:Int):=of_decide_eq_true (by first|(with_reducible assumption)|assumption)
           have q189:x8_1 < (l0.length:Int):=of_decide_eq_true (by first|(with_reducible assumption)|assumption)
           obtain ⟨ad189,A189_0,c189_0,A189_1,c189_1,e189,hx189_0,hx189_1,hx189_2,hl189_0,hi189_0,hl189_1,hi189_1⟩:=at_T30 HR0.out x8_1 p189 q189
           cases e189
           replace hx189_0:=(HB.out.cell (World.block_lt_of_cell? w _ hx189_0)).trans hx189_0
           replace hx189_1:=(HB.out.cell (World.block_lt_of_cell? w _ hx189_1)).trans hx189_1
           replace hx189_2:=(HB.out.cell (World.block_lt_of_cell? w _ hx189_2)).trans hx189_2
           have HR189_0:=Aside0.mk hi189_0
           have HC189_0:=Aside0.mk hl189_0
           clear hi189_0 hl189_0
           have HR189_1:=Aside0.mk hi189_1
           have HC189_1:=Aside0.mk hl189_1
           clear hi189_1 hl189_1
           replace p189:=eq_true p189
           replace q189:=eq_true q189
           have p190:0 ≤ (x8_1:Int):=of_decide_eq_true (by first|(with_reducible assumption)|assumption)
           have q190:x8_1 < (l0.length:Int):=of_decide_eq_true (by first|(with_reducible assumption)|assumption)
           obtain ⟨ad190,A190_0,c190_0,A190_1,c190_1,e190,hx190_0,hx190_1,hx190_2,hl190_0,hi190_0,hl190_1,hi190_1⟩:=at_T30 HR0.out x8_1 p190 q190
           obtain rfl:ad189 = ad190:=(by injection e190)
           replace hx190_0:=(HB.out.cell (World.block_lt_of_cell? w _ hx190_0)).trans hx190_0
           replace hx190_1:=(HB.out.cell (World.block_lt_of_cell? w _ hx190_1)).trans hx190_1
           replace hx190_2:=(HB.out.cell (World.block_lt_of_cell? w _ hx190_2)).trans hx190_2
           have HR190_0:=Aside0.mk hi190_0
           have HC190_0:=Aside0.mk hl190_0
           clear hi190_0 hl190_0
           have HR190_1:=Aside0.mk hi190_1
           have HC190_1:=Aside0.mk hl190_1
           clear hi190_1 hl190_1
           replace p190:=eq_true p190
           replace q190:=eq_true q190
           have ea_:=Option.some.inj (hx189_0.symm.trans hx190_0)
           injection ea_ with ea_ en_ ec_
           subst ea_
           subst ec_
           clear en_
           have ea_:=Option.some.inj (hx189_1.symm.trans hx190_1)
           injection ea_ with ea_ en_ ec_
           subst ea_
           subst ec_
           clear en_
           have p191:0 ≤ (x10_2:Int):=of_decide_eq_true (by first|(with_reducible assumption)|assumption)
           have q191:x10_2 < (((rd_T30 l0 x8_1).f0).length:Int):=of_decide_eq_true (by first|(with_reducible assumption)|assumption)
           obtain ⟨ad191,e191,hx191_0⟩:=Kd.at_string HR190_0.out x10_2 p191 q191
           cases e191
           replace hx191_0:=(HB.out.cell (World.block_lt_of_cell? w _ hx191_0)).trans hx191_0
           replace p191:=eq_true p191
           replace q191:=eq_true q191
           go_wp2
           go_roundg k2
           case measure=>have:=HK1.out;have:=HK2.out;omega
           case rel=>exact ⟨(((rdOf ByteArray.empty ((rd_T30 l0 x8_1).f0) x10_2).toList == a1.toList)),(wrap64 (x10_2 + 1)),(by first|rfl|(simp;done)|(simp only [i64_w,i32_w];done)|(simp only [i64_w,i32_w];rfl)|(simp [*];done)|(simp [emp_bne,emp_beq];done)),(by first|rfl|(simp;done)|(simp only [i64_w,i32_w];done)|(simp only [i64_w,i32_w];rfl)|(simp [*];done)|(simp [emp_bne,emp_beq];done)),H',⟨by have:=HK1.out;have:=HK2.out;omega⟩,⟨by (with_reducible repeat (first|apply Kd.R_alloc|apply Kd.R_drewN|apply Kd.R_drew));exact HO_189000.out⟩,⟨by (with_reducible repeat (first|apply Kd.R_alloc|apply Kd.R_drewN|apply Kd.R_drew));exact HO_189001.out⟩,⟨by (with_reducible repeat (first|refine blk_drewN ?_ _|refine blk_drew ?_|refine blk_alloc ?_ _));exact BK181.out⟩,⟨by (with_reducible repeat (first|refine blk_drewN ?_ _|refine blk_drew ?_|refine blk_alloc ?_ _));exact BK188.out⟩,⟨by repeat (first|(with_reducible first|exact HB.out|apply below_alloc|apply pw_below_drewN|apply below_drew1|refine below_set ?_ GE181.out|refine below_set ?_ GE188.out)|exact HB.out)⟩⟩
          ·rw [if_neg c18] at H
           exact absurd H (by simp)
        ·rw [if_neg c16] at H
         have c16b0:decide (x10_2 < (((rd_T30 l0 x8_1).f0).length:Int)) = false:=decide_eq_false c16
         clear c16
         by_cases c19:x9_2 = true
         ·subst c19
          have H1:(if x189001_1.length + ((rd_T30 l0 x8_1).f1).length < 5864062014805 then (spec_l2Of.l0 k2 l0 a1 true (wrap64 (x8_1 + 1)) y182 (x189001_1 ++ ((rd_T30 l0 x8_1).f1)) (mx x189002_1 ((rd_T30 l0 x8_1).f2))) else (none)) = some (r1,r2,r3,r4):=by rw [if_pos rfl] at H;exact H
          clear H
          have H:=H1
          clear H1
          by_cases c20:x189001_1.length + ((rd_T30 l0 x8_1).f1).length < 5864062014805
          ·rw [if_pos c20] at H
           have LMc20:=Aside0.mk c20
           clear c20
           obtain ⟨y193,hy193⟩:∃ y_:List (S57),y_ = (x189001_1 ++ ((rd_T30 l0 x8_1).f1)):=⟨_,rfl⟩
           replace H:(spec_l2Of.l0 k2 l0 a1 true (wrap64 (x8_1 + 1)) y182 y193 (mx x189002_1 ((rd_T30 l0 x8_1).f2))) = some (r1,r2,r3,r4):=by first|(rw [hy193];with_reducible exact H)|(have H2_:=(Option.bind_some _ _).symm.trans H;rw [hy193];with_reducible exact H2_)|(have H2_:=(Option.bind_some _ _).symm.trans H;with_reducible exact H2_)|with_reducible exact H|(rw [hy193];exact H)|exact H
           have Ny193:=Aside0.mk hy193
           clear hy193
           obtain ⟨ji21,hji21⟩:∃ j_:Int,(mx x189002_1 ((rd_T30 l0 x8_1).f2)) = j_:=⟨_,rfl⟩
           replace H:(spec_l2Of.l0 k2 l0 a1 true (wrap64 (x8_1 + 1)) y182 y193 ji21) = some (r1,r2,r3,r4):=by first|(rw [hji21] at H;exact H)|(simp only [hji21] at H ⊢;exact H)
           have hji21_:(if x189002_1 < ((rd_T30 l0 x8_1).f2) then ((rd_T30 l0 x8_1).f2) else x189002_1) = ji21:=hji21
           have H':=Aside0.mk H
           clear H
           have p189:0 ≤ (x8_1:Int):=of_decide_eq_true (by first|(with_reducible assumption)|assumption)
           have q189:x8_1 < (l0.length:Int):=of_decide_eq_true (by first|(with_reducible assumption)|assumption)
           obtain ⟨ad189,A189_0,c189_0,A189_1,c189_1,e189,hx189_0,hx189_1,hx189_2,hl189_0,hi189_0,hl189_1,hi189_1⟩:=at_T30 HR0.out x8_1 p189 q189
           cases e189
           replace hx189_0:=(HB.out.cell (World.block_lt_of_cell? w _ hx189_0)).trans hx189_0
           replace hx189_1:=(HB.out.cell (World.block_lt_of_cell? w _ hx189_1)).trans hx189_1
           replace hx189_2:=(HB.out.cell (World.block_lt_of_cell? w _ hx189_2)).trans hx189_2
           have HR189_0:=Aside0.mk hi189_0
           have HC189_0:=Aside0.mk hl189_0
           clear hi189_0 hl189_0
           have HR189_1:=Aside0.mk hi189_1
           have HC189_1:=Aside0.mk hl189_1
           clear hi189_1 hl189_1
           replace p189:=eq_true p189
           replace q189:=eq_true q189
           try go_wp2
           have n0_:=Aside0.mk (Kd.R_drew HO_189000.out)
           have n1_:=Aside0.mk (Kd.R_drew HO_189001.out)
           have n2_:=Aside0.mk (blk_drew BK181.out)
           have n3_:=Aside0.mk (blk_drew BK188.out)
           have n4_:=Aside0.mk (below_drew1 HB.out)
           clear HO_189000
           clear HO_189001
           clear BK181
           clear BK188
           clear HB
           have HO_189000:=n0_
           have HO_189001:=n1_
           have BK181:=n2_
           have BK188:=n3_
           have HB:=n4_
           clear n0_ n1_ n2_ n3_ n4_
           have p192:0 ≤ (x8_1:Int):=of_decide_eq_true (by first|(with_reducible assumption)|assumption)
           have q192:x8_1 < (l0.length:Int):=of_decide_eq_true (by first|(with_reducible assumption)|assumption)
           obtain ⟨ad192,A192_0,c192_0,A192_1,c192_1,e192,hx192_0,hx192_1,hx192_2,hl192_0,hi192_0,hl192_1,hi192_1⟩:=at_T30 HR0.out x8_1 p192 q192
           have hw192_2:=hx192_2
           have hw192_1:=hx192_1
           have hw192_0:=hx192_0
           obtain rfl:ad189 = ad192:=(by injection e192)
           replace hx192_0:=(HB.out.cell (World.block_lt_of_cell? w _ hx192_0)).trans hx192_0
           replace hx192_1:=(HB.out.cell (World.block_lt_of_cell? w _ hx192_1)).trans hx192_1
           replace hx192_2:=(HB.out.cell (World.block_lt_of_cell? w _ hx192_2)).trans hx192_2
           have HR192_0:=Aside0.mk hi192_0
           have HC192_0:=Aside0.mk hl192_0
           clear hi192_0 hl192_0
           have HR192_1:=Aside0.mk hi192_1
           have HC192_1:=Aside0.mk hl192_1
           clear hi192_1 hl192_1
           replace p192:=eq_true p192
           replace q192:=eq_true q192
           refine start_ (n:=10) (S:=fun w'=>w'.cell? ⟨gb188,0,none⟩ = some (.slice Ao9 y182.length co9) ∧ w'.cell? ⟨gb188,1,none⟩ = some (u189001) ∧ w'.cell? ⟨gb188,2,none⟩ = some (.int .i64 x189002_1) ∧ w'.cell? (ad189.add ((x8_1).toNat * 3)) = some (.slice A192_0 ((rd_T30 l0 x8_1).f0).length c192_0) ∧ w'.cell? ⟨(ad189.add ((x8_1).toNat * 3)).block,(ad189.add ((x8_1).toNat * 3)).off + 1,none⟩ = some (.slice A192_1 ((rd_T30 l0 x8_1).f1).length c192_1) ∧ w'.cell? ⟨(ad189.add ((x8_1).toNat * 3)).block,(ad189.add ((x8_1).toNat * 3)).off + 2,none⟩ = some (.int .i64 ((rd_T30 l0 x8_1).f2))) (ds:=[9]) #[false,false,false,false,false,false,false,false,false,false] (by kernel_rfl) rfl rfl ⟨(blk_cell BK188.out 0).trans rfl,(blk_cell BK188.out 1).trans rfl,(blk_cell BK188.out 2).trans rfl,((HB.out.cell (World.block_lt_of_cell? w _ hw192_0)).trans hw192_0),((HB.out.cell (World.block_lt_of_cell? w _ hw192_1)).trans hw192_1),((HB.out.cell (World.block_lt_of_cell? w _ hw192_2)).trans hw192_2)⟩ (fun hHeld=>?_);refine with_tabW spec_l2Of.tab13 spec_l2Of.bits13 (fun HT_ HW_=>?_)
           generalize wr.drew = w22 at HO_189000 HO_189001 BK181 BK188 HB HR192_0 HR192_1 hx192_0 hx192_1 hx192_2 hHeld ⊢
           refine pure_ (i:=0) (N:=some 45) (v:=?_) (a':=?_) #[true,false,false,false,false,false,false,false,false,false] rfl rfl (any_of HT_.out (by kernel_rfl)) (fun _ _ _ h=>h) (Or.inl ⟨by rfl,?_⟩) ?_ ?_
           rotate_left
           ·intro w'
            go_simp
            with_reducible rfl
           rotate_left
           ·simp only [Act.put,List.setIfInBounds_toArray,List.set_cons_zero,List.set_cons_succ,i64_w,i32_w]
            rfl
           refine pure_ (i:=2) (N:=some 47) (v:=?_) (a':=?_) #[true,false,true,false,false,false,false,false,false,false] rfl rfl (any_of HT_.out (by kernel_rfl)) (fun _ _ _ h=>h) (Or.inl ⟨by rfl,?_⟩) ?_ ?_
           rotate_left
           ·intro w'
            go_simp
            with_reducible rfl
           rotate_left
           ·simp only [Act.put,List.setIfInBounds_toArray,List.set_cons_zero,List.set_cons_succ,i64_w,i32_w]
            rfl
           refine pure_ (i:=3) (N:=some 48) (v:=?_) (a':=?_) #[true,false,true,true,false,false,false,false,false,false] rfl rfl (any_of HT_.out (by kernel_rfl)) (fun _ _ _ h=>h) (Or.inl ⟨by rfl,?_⟩) ?_ ?_
           rotate_left
           ·intro w'
            go_simp
            with_reducible rfl
           rotate_left
           ·simp only [Act.put,List.setIfInBounds_toArray,List.set_cons_zero,List.set_cons_succ,i64_w,i32_w]
            rfl
           refine pure_ (i:=4) (N:=some 49) (v:=?_) (a':=?_) #[true,false,true,true,true,false,false,false,false,false] rfl rfl (any_of HT_.out (by kernel_rfl)) (fun _ _ _ h=>h) (Or.inl ⟨by rfl,?_⟩) ?_ ?_
           rotate_left
           ·intro w'
            go_simp
            with_reducible rfl
           rotate_left
           ·simp only [Act.put,List.setIfInBounds_toArray,List.set_cons_zero,List.set_cons_succ,i64_w,i32_w]
            rfl
           refine pure_ (i:=5) (N:=some 50) (v:=?_) (a':=?_) #[true,false,true,true,true,true,false,false,false,false] rfl rfl (any_of HT_.out (by kernel_rfl)) (fun _ _ _ h=>h) (Or.inl ⟨by rfl,?_⟩) ?_ ?_
           rotate_left
           ·intro w'
            go_simp
            with_reducible rfl
           rotate_left
           ·simp only [Act.put,List.setIfInBounds_toArray,List.set_cons_zero,List.set_cons_succ,i64_w,i32_w]
            rfl
           refine take_ (i:=1) (N:=some 46) (v:=?_) (a':=?_) #[true,true,true,true,true,true,false,false,false,false] rfl rfl (take_ofW HT_.out HW_.out (by kernel_rfl)) (fun _ _ _ h=>h) (Or.inl ⟨by rfl,?_⟩) hHeld ?_ ?_
           rotate_left
           ·rintro w' ⟨s0,s1,s2,s3,s4,s5⟩
            go_simp
            with_reducible rfl
           rotate_left
           ·simp only [Act.put,List.setIfInBounds_toArray,List.set_cons_zero,List.set_cons_succ,i64_w,i32_w]
            rfl
           refine take_ (i:=6) (N:=some 51) (v:=?_) (a':=?_) #[true,true,true,true,true,true,true,false,false,false] rfl rfl (take_ofW HT_.out HW_.out (by kernel_rfl)) (fun _ _ _ h=>h) (Or.inl ⟨by rfl,?_⟩) hHeld ?_ ?_
           rotate_left
           ·rintro w' ⟨s0,s1,s2,s3,s4,s5⟩
            go_simp
            with_reducible rfl
           rotate_left
           ·simp only [Act.put,List.setIfInBounds_toArray,List.set_cons_zero,List.set_cons_succ,i64_w,i32_w]
            rfl
           refine one_ (i:=7) (N:=some 52) #[true,true,true,true,true,true,true,true,false,false] rfl rfl (one_of HT_.out (by kernel_rfl)) (by decide) (fun K hK=>?_)
           refine Kd.R_append_rows_step k57 (w0:=w) w.heap.size (by rfl) (.tmp 46) (.tmp 51) 28 57 (.agg #[(.bool false),(.string ⟨#[]⟩)]) 24 rfl Try.underlying28 info57 rfl (by decide) (by omega) u189001 x189001_1 ((rd_T30 l0 x8_1).f1) _ _ _ (fun _=>True) (fun _=>False) rfl rfl ?aO ?aR (fun _ _ h=>h) (fun _ h=>h.elim) ?aF ?aB ?aS ?aL ?_
           (case aR=>repeat (first|exact (Kd.C_below HR192_1.out HB.out)|(with_reducible refine Kd.C_alloc ?_ _)|(with_reducible refine Kd.C_drewN ?_ _)|(with_reducible refine Kd.C_drew ?_)))
           (case aB=>exact (by repeat (first|(with_reducible first|exact HB.out|apply below_alloc|apply pw_below_drewN|apply below_drew1|refine below_set ?_ GE181.out|refine below_set ?_ GE188.out)|exact HB.out)))
           (case aF=>exact (fun _ _=>trivial))
           (case aO=>exact (by (with_reducible repeat (first|apply Kd.R_alloc|apply Kd.R_drewN|apply Kd.R_drew));exact HO_189001.out))
           (case aS=>exact (below_size (by repeat (first|(with_reducible first|exact HB.out|apply below_alloc|apply pw_below_drewN|apply below_drew1|refine below_set ?_ GE181.out|refine below_set ?_ GE188.out)|exact HB.out))))
           (case aL=>have:=LMc20.out;omega)
           intro v194 w23 ho hb hg hat
           rw [← Ny193.out] at ho
           have n0_:=Aside0.mk (Kd.R_over' (by (with_reducible repeat (first|apply Kd.R_alloc|apply Kd.R_drewN|apply Kd.R_drew));exact HO_189000.out) (Kd.R_typed (by (with_reducible repeat (first|apply Kd.R_alloc|apply Kd.R_drewN|apply Kd.R_drew));exact HO_189001.out)) (by decide) hg)
           have n1_:=Aside0.mk (blk_grown (g:=gb181) (o:=.cells #[.slice none 0 0, .slice none 0 0, .int .i64 0] 30 (0,0)) (by (with_reducible repeat (first|refine blk_drewN ?_ _|refine blk_drew ?_|refine blk_alloc ?_ _));exact BK181.out) hg (Kd.R_ne HO_189001.out BK181.out (by decide)))
           have n2_:=Aside0.mk (blk_grown (g:=gb188) (o:=.cells #[.slice Ao9 y182.length co9,u189001, .int .i64 x189002_1] 30 (0,0)) (by (with_reducible repeat (first|refine blk_drewN ?_ _|refine blk_drew ?_|refine blk_alloc ?_ _));exact BK188.out) hg (Kd.R_ne HO_189001.out BK188.out (by decide)))
           have n3_:=Aside0.mk (hb)
           have n4_:=Aside0.mk (ho)
           clear HO_189000
           clear BK181
           clear BK188
           clear HB
           clear HO_189001
           have HO_189000:=n0_
           have BK181:=n1_
           have BK188:=n2_
           have HB:=n3_
           have HO195:=n4_
           clear n0_ n1_ n2_ n3_ n4_
           clear ho hb hg hat
           obtain ⟨Ao24,co24,eo24⟩:=Kd.R_slice HO195.out
           (first|subst eo24|(injection eo24 with f1_ f2_ f3_;have f4_:=f1_.symm;have f5_:=f3_.symm;clear f1_ f2_ f3_;subst f4_;subst f5_))
           refine hK.out _ _ ⟨(blk_cell BK188.out 0).trans rfl,(blk_cell BK188.out 1).trans rfl,(blk_cell BK188.out 2).trans rfl,((HB.out.cell (World.block_lt_of_cell? w _ hw192_0)).trans hw192_0),((HB.out.cell (World.block_lt_of_cell? w _ hw192_1)).trans hw192_1),((HB.out.cell (World.block_lt_of_cell? w _ hw192_2)).trans hw192_2)⟩ (fun hHeld=>?_)
           clear hK K
           refine norm_ (a':=?_) ?_ ?_
           rotate_left
           ·show Act.put _ (some 52) _ = _
            simp only [Act.put,List.setIfInBounds_toArray,List.set_cons_zero,List.set_cons_succ,i64_w,i32_w]
            rfl
           refine pure_ (i:=8) (N:=some 53) (v:=?_) (a':=?_) #[true,true,true,true,true,true,true,true,true,false] rfl rfl (any_of HT_.out (by kernel_rfl)) (fun _ _ _ h=>h) (Or.inl ⟨by rfl,?_⟩) ?_ ?_
           rotate_left
           ·intro w'
            go_simp
            with_reducible rfl
           rotate_left
           ·simp only [Act.put,List.setIfInBounds_toArray,List.set_cons_zero,List.set_cons_succ,i64_w,i32_w]
            rfl
           refine last_ (i:=9) (N:=none) #[true,true,true,true,true,true,true,true,true,true] rfl rfl (one_of HT_.out (by kernel_rfl)) (by decide) (fun K hK=>?_)
           have hs25:w23.cell? ⟨gb188,1,none⟩ = some (u189001):=(blk_cell BK188.out 1).trans rfl
           have hfs25:=blk_frozen BK188.out 1
           have hns25_0:=NB181_188.out
           have hms25_0:=NB188_181.out
           refine skip_ (w1:=?_) (by rfl) rfl ?_ ?_
           rotate_left
           ·go_simp
            rfl
           refine hK.out _ _ ?_
           clear hK K
           refine done_ (done_of HT_.out (by kernel_rfl)) ?_
           try go_wp2
           have n0_:Aside0 (Kd.R Kd.string 9 (w23.setCell ⟨gb188,1,none⟩ (.slice Ao24 y193.length co24)) w.heap.size (fun _=>True) (.slice Ao9 y182.length co9) y182):=⟨by (with_reducible repeat (first|apply Kd.R_alloc|apply Kd.R_drewN|apply Kd.R_drew));exact Kd.R_mono (Kd.R_far (p:=⟨gb188,1,none⟩) (Kd.R_types HO_189000.out BK188.out (by decide)) (fun _ hk=>hk.2) (.slice Ao24 y193.length co24)) (fun _ hk=>trivial)⟩
           have n1_:Aside0 (Kd.R k57 57 (w23.setCell ⟨gb188,1,none⟩ (.slice Ao24 y193.length co24)) w.heap.size (fun _=>True) (.slice Ao24 y193.length co24) y193):=⟨by (with_reducible repeat (first|apply Kd.R_alloc|apply Kd.R_drewN|apply Kd.R_drew));exact Kd.R_mono (Kd.R_far (p:=⟨gb188,1,none⟩) (Kd.R_types HO195.out BK188.out (by decide)) (fun _ hk=>hk.2) (.slice Ao24 y193.length co24)) (fun _ hk=>trivial)⟩
           have n2_:Aside0 ((w23.setCell ⟨gb188,1,none⟩ (.slice Ao24 y193.length co24)).heap[gb181]? = some (.cells #[.slice none 0 0, .slice none 0 0, .int .i64 0] 30 (0,0))):=⟨by (with_reducible repeat (first|refine blk_drewN ?_ _|refine blk_drew ?_|refine blk_alloc ?_ _));refine blk_far ?_ NB181_188.out _;(with_reducible repeat (first|refine blk_drewN ?_ _|refine blk_drew ?_|refine blk_alloc ?_ _));exact BK181.out⟩
           have n3_:Aside0 ((w23.setCell ⟨gb188,1,none⟩ (.slice Ao24 y193.length co24)).heap[gb188]? = some (.cells #[.slice Ao9 y182.length co9, .slice Ao24 y193.length co24, .int .i64 x189002_1] 30 (0,0))):=⟨by (with_reducible repeat (first|refine blk_drewN ?_ _|refine blk_drew ?_|refine blk_alloc ?_ _));refine blk_put (cs:=#[.slice Ao9 y182.length co9,u189001, .int .i64 x189002_1]) ?_ 1 _ rfl;(with_reducible repeat (first|refine blk_drewN ?_ _|refine blk_drew ?_|refine blk_alloc ?_ _));exact BK188.out⟩
           have n4_:Aside0 (Below w.heap.size w (w23.setCell ⟨gb188,1,none⟩ (.slice Ao24 y193.length co24))):=⟨by repeat (first|(with_reducible first|exact HB.out|apply below_alloc|apply pw_below_drewN|apply below_drew1|refine below_set ?_ GE181.out|refine below_set ?_ GE188.out)|exact HB.out)⟩
           (try clear HO_189000)
           (try clear HO195)
           (try clear BK181)
           (try clear BK188)
           (try clear HB)
           generalize (w23.setCell ⟨gb188,1,none⟩ (.slice Ao24 y193.length co24)) = w26 at n0_ n1_ n2_ n3_ n4_ ⊢
           have HO_189000:=n0_
           have HO195:=n1_
           have BK181:=n2_
           have BK188:=n3_
           have HB:=n4_
           clear n0_ n1_ n2_ n3_ n4_
           have n0_:=Aside0.mk (Kd.R_drew HO_189000.out)
           have n1_:=Aside0.mk (Kd.R_drew HO195.out)
           have n2_:=Aside0.mk (blk_drew BK181.out)
           have n3_:=Aside0.mk (blk_drew BK188.out)
           have n4_:=Aside0.mk (below_drew1 HB.out)
           clear HO_189000
           clear HO195
           clear BK181
           clear BK188
           clear HB
           have HO_189000:=n0_
           have HO195:=n1_
           have BK181:=n2_
           have BK188:=n3_
           have HB:=n4_
           clear n0_ n1_ n2_ n3_ n4_
           have p196:0 ≤ (x8_1:Int):=of_decide_eq_true (by first|(with_reducible assumption)|assumption)
           have q196:x8_1 < (l0.length:Int):=of_decide_eq_true (by first|(with_reducible assumption)|assumption)
           obtain ⟨ad196,A196_0,c196_0,A196_1,c196_1,e196,hx196_0,hx196_1,hx196_2,hl196_0,hi196_0,hl196_1,hi196_1⟩:=at_T30 HR0.out x8_1 p196 q196
           have hw196_2:=hx196_2
           have hw196_1:=hx196_1
           have hw196_0:=hx196_0
           obtain rfl:ad189 = ad196:=(by injection e196)
           replace hx196_0:=(HB.out.cell (World.block_lt_of_cell? w _ hx196_0)).trans hx196_0
           replace hx196_1:=(HB.out.cell (World.block_lt_of_cell? w _ hx196_1)).trans hx196_1
           replace hx196_2:=(HB.out.cell (World.block_lt_of_cell? w _ hx196_2)).trans hx196_2
           have HR196_0:=Aside0.mk hi196_0
           have HC196_0:=Aside0.mk hl196_0
           clear hi196_0 hl196_0
           have HR196_1:=Aside0.mk hi196_1
           have HC196_1:=Aside0.mk hl196_1
           clear hi196_1 hl196_1
           replace p196:=eq_true p196
           replace q196:=eq_true q196
           refine start_ (n:=10) (S:=fun w'=>w'.cell? ⟨gb188,0,none⟩ = some (.slice Ao9 y182.length co9) ∧ w'.cell? ⟨gb188,1,none⟩ = some (.slice Ao24 y193.length co24) ∧ w'.cell? ⟨gb188,2,none⟩ = some (.int .i64 x189002_1) ∧ w'.cell? (ad189.add ((x8_1).toNat * 3)) = some (.slice A196_0 ((rd_T30 l0 x8_1).f0).length c196_0) ∧ w'.cell? ⟨(ad189.add ((x8_1).toNat * 3)).block,(ad189.add ((x8_1).toNat * 3)).off + 1,none⟩ = some (.slice A196_1 ((rd_T30 l0 x8_1).f1).length c196_1) ∧ w'.cell? ⟨(ad189.add ((x8_1).toNat * 3)).block,(ad189.add ((x8_1).toNat * 3)).off + 2,none⟩ = some (.int .i64 ((rd_T30 l0 x8_1).f2))) (ds:=[9]) #[false,false,false,false,false,false,false,false,false,false] (by kernel_rfl) rfl rfl ⟨(blk_cell BK188.out 0).trans rfl,(blk_cell BK188.out 1).trans rfl,(blk_cell BK188.out 2).trans rfl,((HB.out.cell (World.block_lt_of_cell? w _ hw196_0)).trans hw196_0),((HB.out.cell (World.block_lt_of_cell? w _ hw196_1)).trans hw196_1),((HB.out.cell (World.block_lt_of_cell? w _ hw196_2)).trans hw196_2)⟩ (fun hHeld=>?_);refine with_tabW spec_l2Of.tab14 spec_l2Of.bits14 (fun HT_ HW_=>?_)
           generalize w26.drew = w27 at HO_189000 HO195 BK181 BK188 HB HR196_0 HR196_1 hx196_0 hx196_1 hx196_2 hHeld ⊢
           refine pure_ (i:=0) (N:=some 54) (v:=?_) (a':=?_) #[true,false,false,false,false,false,false,false,false,false] rfl rfl (any_of HT_.out (by kernel_rfl)) (fun _ _ _ h=>h) (Or.inl ⟨by rfl,?_⟩) ?_ ?_
           rotate_left
           ·intro w'
            go_simp
            with_reducible rfl
           rotate_left
           ·simp only [Act.put,List.setIfInBounds_toArray,List.set_cons_zero,List.set_cons_succ,i64_w,i32_w]
            rfl
           refine pure_ (i:=2) (N:=some 56) (v:=?_) (a':=?_) #[true,false,true,false,false,false,false,false,false,false] rfl rfl (any_of HT_.out (by kernel_rfl)) (fun _ _ _ h=>h) (Or.inl ⟨by rfl,?_⟩) ?_ ?_
           rotate_left
           ·intro w'
            go_simp
            with_reducible rfl
           rotate_left
           ·simp only [Act.put,List.setIfInBounds_toArray,List.set_cons_zero,List.set_cons_succ,i64_w,i32_w]
            rfl
           refine pure_ (i:=3) (N:=some 57) (v:=?_) (a':=?_) #[true,false,true,true,false,false,false,false,false,false] rfl rfl (any_of HT_.out (by kernel_rfl)) (fun _ _ _ h=>h) (Or.inl ⟨by rfl,?_⟩) ?_ ?_
           rotate_left
           ·intro w'
            go_simp
            with_reducible rfl
           rotate_left
           ·simp only [Act.put,List.setIfInBounds_toArray,List.set_cons_zero,List.set_cons_succ,i64_w,i32_w]
            rfl
           refine pure_ (i:=4) (N:=some 58) (v:=?_) (a':=?_) #[true,false,true,true,true,false,false,false,false,false] rfl rfl (any_of HT_.out (by kernel_rfl)) (fun _ _ _ h=>h) (Or.inl ⟨by rfl,?_⟩) ?_ ?_
           rotate_left
           ·intro w'
            go_simp
            with_reducible rfl
           rotate_left
           ·simp only [Act.put,List.setIfInBounds_toArray,List.set_cons_zero,List.set_cons_succ,i64_w,i32_w]
            rfl
           refine pure_ (i:=5) (N:=some 59) (v:=?_) (a':=?_) #[true,false,true,true,true,true,false,false,false,false] rfl rfl (any_of HT_.out (by kernel_rfl)) (fun _ _ _ h=>h) (Or.inl ⟨by rfl,?_⟩) ?_ ?_
           rotate_left
           ·intro w'
            go_simp
            with_reducible rfl
           rotate_left
           ·simp only [Act.put,List.setIfInBounds_toArray,List.set_cons_zero,List.set_cons_succ,i64_w,i32_w]
            rfl
           refine take_ (i:=1) (N:=some 55) (v:=?_) (a':=?_) #[true,true,true,true,true,true,false,false,false,false] rfl rfl (take_ofW HT_.out HW_.out (by kernel_rfl)) (fun _ _ _ h=>h) (Or.inl ⟨by rfl,?_⟩) hHeld ?_ ?_
           rotate_left
           ·rintro w' ⟨s0,s1,s2,s3,s4,s5⟩
            go_simp
            with_reducible rfl
           rotate_left
           ·simp only [Act.put,List.setIfInBounds_toArray,List.set_cons_zero,List.set_cons_succ,i64_w,i32_w]
            rfl
           refine take_ (i:=6) (N:=some 60) (v:=?_) (a':=?_) #[true,true,true,true,true,true,true,false,false,false] rfl rfl (take_ofW HT_.out HW_.out (by kernel_rfl)) (fun _ _ _ h=>h) (Or.inl ⟨by rfl,?_⟩) hHeld ?_ ?_
           rotate_left
           ·rintro w' ⟨s0,s1,s2,s3,s4,s5⟩
            go_simp
            with_reducible rfl
           rotate_left
           ·simp only [Act.put,List.setIfInBounds_toArray,List.set_cons_zero,List.set_cons_succ,i64_w,i32_w]
            rfl
           refine pure_ (i:=7) (N:=some 61) (v:=?_) (a':=?_) #[true,true,true,true,true,true,true,true,false,false] rfl rfl (any_of HT_.out (by kernel_rfl)) (fun _ _ _ h=>h) (Or.inl ⟨by rfl,?_⟩) ?_ ?_
           rotate_left
           ·intro w'
            go_simp
            with_reducible rfl
           rotate_left
           ·simp only [Act.put,List.setIfInBounds_toArray,List.set_cons_zero,List.set_cons_succ,i64_w,i32_w]
            rfl
           refine pure_ (i:=8) (N:=some 62) (v:=?_) (a':=?_) #[true,true,true,true,true,true,true,true,true,false] rfl rfl (any_of HT_.out (by kernel_rfl)) (fun _ _ _ h=>h) (Or.inl ⟨by rfl,?_⟩) ?_ ?_
           rotate_left
           ·intro w'
            go_simp
            with_reducible rfl
           rotate_left
           ·simp only [Act.put,List.setIfInBounds_toArray,List.set_cons_zero,List.set_cons_succ,i64_w,i32_w]
            rfl
           refine last_ (i:=9) (N:=none) #[true,true,true,true,true,true,true,true,true,true] rfl rfl (one_of HT_.out (by kernel_rfl)) (by decide) (fun K hK=>?_)
           have hs28:w27.cell? ⟨gb188,2,none⟩ = some (.int .i64 x189002_1):=(blk_cell BK188.out 2).trans rfl
           have hfs28:=blk_frozen BK188.out 2
           have hns28_0:=NB181_188.out
           have hms28_0:=NB188_181.out
           refine skip_ (w1:=?_) (by rfl) rfl ?_ ?_
           rotate_left
           ·go_simp
            rfl
           refine hK.out _ _ ?_
           clear hK K
           refine done_ (done_of HT_.out (by kernel_rfl)) ?_
           try go_wp2
           go_roundg k2
           case measure=>have:=HK1.out;have:=HK2.out;omega
           case rel=>exact ⟨(true),(wrap64 (x8_1 + 1)),(y193),(ji21),(.slice Ao24 y193.length co24),(by first|rfl|(simp;done)|(simp only [i64_w,i32_w];done)|(simp only [i64_w,i32_w];rfl)|(simp [*];done)|(simp [emp_bne,emp_beq];done)),(by first|rfl|(simp;done)|(simp only [i64_w,i32_w];done)|(simp only [i64_w,i32_w];rfl)|(simp [*];done)|(simp [emp_bne,emp_beq];done)),H',⟨by have:=HK1.out;have:=HK2.out;omega⟩,⟨by (with_reducible repeat (first|apply Kd.R_alloc|apply Kd.R_drewN|apply Kd.R_drew));exact Kd.R_mono (Kd.R_far (p:=⟨gb188,2,none⟩) (Kd.R_types HO_189000.out BK188.out (by decide)) (fun _ hk=>hk.2) (.int .i64 ji21)) (fun _ hk=>trivial)⟩,⟨by (with_reducible repeat (first|apply Kd.R_alloc|apply Kd.R_drewN|apply Kd.R_drew));exact Kd.R_mono (Kd.R_far (p:=⟨gb188,2,none⟩) (Kd.R_types HO195.out BK188.out (by decide)) (fun _ hk=>hk.2) (.int .i64 ji21)) (fun _ hk=>trivial)⟩,⟨by (with_reducible repeat (first|refine blk_drewN ?_ _|refine blk_drew ?_|refine blk_alloc ?_ _));refine blk_far ?_ NB181_188.out _;(with_reducible repeat (first|refine blk_drewN ?_ _|refine blk_drew ?_|refine blk_alloc ?_ _));exact BK181.out⟩,⟨by (with_reducible repeat (first|refine blk_drewN ?_ _|refine blk_drew ?_|refine blk_alloc ?_ _));refine blk_put (cs:=#[.slice Ao9 y182.length co9, .slice Ao24 y193.length co24, .int .i64 x189002_1]) ?_ 2 _ rfl;(with_reducible repeat (first|refine blk_drewN ?_ _|refine blk_drew ?_|refine blk_alloc ?_ _));exact BK188.out⟩,⟨by repeat (first|(with_reducible first|exact HB.out|apply below_alloc|apply pw_below_drewN|apply below_drew1|refine below_set ?_ GE181.out|refine below_set ?_ GE188.out)|exact HB.out)⟩⟩
          ·rw [if_neg c20] at H
           exact absurd H (by simp)
         ·replace c19:=Bool.eq_false_iff.mpr c19
          subst c19
          have H1:(spec_l2Of.l0 k2 l0 a1 x7_1 (wrap64 (x8_1 + 1)) y182 x189001_1 x189002_1) = some (r1,r2,r3,r4):=by rw [if_neg (show ¬ (false = true) by decide)] at H;exact H
          clear H
          have H:=H1
          clear H1
          have H':=Aside0.mk H
          clear H
          have p189:0 ≤ (x8_1:Int):=of_decide_eq_true (by first|(with_reducible assumption)|assumption)
          have q189:x8_1 < (l0.length:Int):=of_decide_eq_true (by first|(with_reducible assumption)|assumption)
          obtain ⟨ad189,A189_0,c189_0,A189_1,c189_1,e189,hx189_0,hx189_1,hx189_2,hl189_0,hi189_0,hl189_1,hi189_1⟩:=at_T30 HR0.out x8_1 p189 q189
          cases e189
          replace hx189_0:=(HB.out.cell (World.block_lt_of_cell? w _ hx189_0)).trans hx189_0
          replace hx189_1:=(HB.out.cell (World.block_lt_of_cell? w _ hx189_1)).trans hx189_1
          replace hx189_2:=(HB.out.cell (World.block_lt_of_cell? w _ hx189_2)).trans hx189_2
          have HR189_0:=Aside0.mk hi189_0
          have HC189_0:=Aside0.mk hl189_0
          clear hi189_0 hl189_0
          have HR189_1:=Aside0.mk hi189_1
          have HC189_1:=Aside0.mk hl189_1
          clear hi189_1 hl189_1
          replace p189:=eq_true p189
          replace q189:=eq_true q189
          go_wp2
          go_roundg k2
          case measure=>have:=HK1.out;have:=HK2.out;omega
          case rel=>exact ⟨(x7_1),(wrap64 (x8_1 + 1)),(x189001_1),(x189002_1),(u189001),(by first|rfl|(simp;done)|(simp only [i64_w,i32_w];done)|(simp only [i64_w,i32_w];rfl)|(simp [*];done)|(simp [emp_bne,emp_beq];done)),(by first|rfl|(simp;done)|(simp only [i64_w,i32_w];done)|(simp only [i64_w,i32_w];rfl)|(simp [*];done)|(simp [emp_bne,emp_beq];done)),H',⟨by have:=HK1.out;have:=HK2.out;omega⟩,⟨by (with_reducible repeat (first|apply Kd.R_alloc|apply Kd.R_drewN|apply Kd.R_drew));exact HO_189000.out⟩,⟨by (with_reducible repeat (first|apply Kd.R_alloc|apply Kd.R_drewN|apply Kd.R_drew));exact HO_189001.out⟩,⟨by (with_reducible repeat (first|refine blk_drewN ?_ _|refine blk_drew ?_|refine blk_alloc ?_ _));exact BK181.out⟩,⟨by (with_reducible repeat (first|refine blk_drewN ?_ _|refine blk_drew ?_|refine blk_alloc ?_ _));exact BK188.out⟩,⟨by repeat (first|(with_reducible first|exact HB.out|apply below_alloc|apply pw_below_drewN|apply below_drew1|refine below_set ?_ GE181.out|refine below_set ?_ GE188.out)|exact HB.out)⟩⟩
       ·rw [if_neg c15] at H
        exact absurd H (by simp)
      ·rw [if_neg c14] at H
       exact absurd H (by simp)
   ·rw [if_neg c13] at H
    have c13b0:decide (x8_1 < (l0.length:Int)) = false:=decide_eq_false c13
    clear c13
    simp only [Option.some.injEq,Prod.mk.injEq] at H
    obtain ⟨rfl,rfl,rfl,rfl⟩:=H
    have hnb29:=NB188_181.out
    have hnc29:=NB181_188.out
    have hcz30_0:wr.cell? ⟨gb188,0,none⟩ = some (.slice Ao9 y182.length co9):=(blk_cell BK188.out 0).trans rfl
    have hcz30_1:wr.cell? ⟨gb188,1,none⟩ = some (u189001):=(blk_cell BK188.out 1).trans rfl
    have hcz30_2:wr.cell? ⟨gb188,2,none⟩ = some (.int .i64 x189002_1):=(blk_cell BK188.out 2).trans rfl
    have hfz30_0:=blk_frozen BK188.out 0
    have hfz30_1:=blk_frozen BK188.out 1
    have hfz30_2:=blk_frozen BK188.out 2
    have hcz31_0:wr.cell? ⟨gb181,0,none⟩ = some (.slice none 0 0):=(blk_cell BK181.out 0).trans rfl
    have hcz31_1:wr.cell? ⟨gb181,1,none⟩ = some (.slice none 0 0):=(blk_cell BK181.out 1).trans rfl
    have hcz31_2:wr.cell? ⟨gb181,2,none⟩ = some (.int .i64 0):=(blk_cell BK181.out 2).trans rfl
    have hfz31_0:=blk_frozen BK181.out 0
    have hfz31_1:=blk_frozen BK181.out 1
    have hfz31_2:=blk_frozen BK181.out 2
    obtain ⟨Ao32,co32,eo32⟩:=Kd.R_slice HO_189001.out
    subst eo32
    go_wp2
    refine bodyPost_ret (results_ct rfl _ _ gb181 30 #[.slice Ao9 y182.length co9, .slice Ao32 x189001_1.length co32, .int .i64 x189002_1] (0,0) _ rfl (by (with_reducible repeat (first|refine blk_drewN ?_ _|refine blk_drew ?_|refine blk_alloc ?_ _));refine blk_put (cs:=#[.slice Ao9 y182.length co9, .slice Ao32 x189001_1.length co32, .int .i64 0]) ?_ 2 _ rfl;(with_reducible repeat (first|refine blk_drewN ?_ _|refine blk_drew ?_|refine blk_alloc ?_ _));refine blk_put (cs:=#[.slice Ao9 y182.length co9, .slice none 0 0, .int .i64 0]) ?_ 1 _ rfl;(with_reducible repeat (first|refine blk_drewN ?_ _|refine blk_drew ?_|refine blk_alloc ?_ _));refine blk_put (cs:=#[.slice none 0 0, .slice none 0 0, .int .i64 0]) ?_ 0 _ rfl;(with_reducible repeat (first|refine blk_drewN ?_ _|refine blk_drew ?_|refine blk_alloc ?_ _));exact BK181.out) Try.underlying30 rfl (by kernel_rfl)) rfl ?_
    exact ⟨_,_,by first|rfl|(simp <;> rfl)|(simp [*] <;> rfl),by (with_reducible repeat (first|apply Kd.R_alloc|apply Kd.R_drewN|apply Kd.R_drew));exact Kd.R_mono (Kd.R_far (p:=⟨gb181,2,none⟩) (Kd.R_far (p:=⟨gb181,1,none⟩) (Kd.R_far (p:=⟨gb181,0,none⟩) (Kd.R_types HO_189000.out BK181.out (by decide)) (fun _ hk=>hk.2) (.slice Ao9 y182.length co9)) (fun _ hk=>hk.2) (.slice Ao32 x189001_1.length co32)) (fun _ hk=>hk.2) (.int .i64 x189002_1)) (fun _ hk=>trivial),by (with_reducible repeat (first|apply Kd.R_alloc|apply Kd.R_drewN|apply Kd.R_drew));exact Kd.R_mono (Kd.R_far (p:=⟨gb181,2,none⟩) (Kd.R_far (p:=⟨gb181,1,none⟩) (Kd.R_far (p:=⟨gb181,0,none⟩) (Kd.R_types HO_189001.out BK181.out (by decide)) (fun _ hk=>hk.2) (.slice Ao9 y182.length co9)) (fun _ hk=>hk.2) (.slice Ao32 x189001_1.length co32)) (fun _ hk=>hk.2) (.int .i64 x189002_1)) (fun _ hk=>trivial),by repeat (first|(with_reducible first|exact HB.out|apply below_alloc|apply pw_below_drewN|apply below_drew1|refine below_set ?_ GE181.out|refine below_set ?_ GE188.out)|exact HB.out)⟩

/-! ### spec_NoticeFor: function 14 -/
def spec_NoticeFor.f (k:Nat) (l0:List (S30)) (a1:ByteArray):Option (List ByteArray × (List (S57)) × Int):=(spec_l2Of.f k l0 a1).bind fun bt198=>(if bt198.2.2.2 = true then (some ((([a1]:List ByteArray)),bt198.2.1,bt198.2.2.1)) else ((spec_l2Of.f k l0 (⟨#[42]⟩:ByteArray)).bind fun bt210=>(some ((([a1]:List ByteArray)),bt210.2.1,bt210.2.2.1))))
theorem spec_NoticeFor.mono:∀ a0 a1 k,LeO (spec_NoticeFor.f k a0 a1) (spec_NoticeFor.f (k + 1) a0 a1):=by
 intro a0 a1 k
 unfold spec_NoticeFor.f
 repeat' first
   | (with_reducible exact spec_l2Of.mono _ _ _)
   | (with_reducible exact LeO.refl _)
   | (with_reducible exact LeO.none _)
   | (with_reducible refine LeO.ite ?_ ?_)
   | (with_reducible refine LeO.bind ?_ (fun _=>?_))
   | exact spec_l2Of.mono _ _ _
   | exact LeO.none _
   | refine LeO.ite ?_ ?_
   | refine LeO.bind ?_ (fun _=>?_)
theorem spec_NoticeFor.calls (k:Nat) (A0:Option Addr) (c0:Nat) (l0:List (S30)) (a1:ByteArray) (r1:List ByteArray) (r2:List (S57)) (r3:Int) (w:World) (hr0:Kd.C k30 w A0 l0.length l0) (hc0:l0.length ≤ c0) (h:spec_NoticeFor.f k l0 a1 = some (r1,r2,r3)) :
  Calls Try.prog 14 #[.slice A0 l0.length c0, .string a1] w fun e w'=>∃ v0_ v1_:Value,e = .returned (.agg #[v0_,v1_, .int .i64 r3]) ∧ Kd.R Kd.string 9 w' w.heap.size (fun _=>True) v0_ r1 ∧ Kd.R k57 57 w' w.heap.size (fun _=>True) v1_ r2 ∧ Below w.heap.size w w':=by
 have hu30:=Try.underlying30
 have HR0:=Aside0.mk hr0
 have HC0:=Aside0.mk hc0
 clear hr0 hc0
 have HB:=Aside0.mk (Below.refl w.heap.size w)
 have H:((spec_l2Of.f k l0 a1).bind fun bt198=>(if bt198.2.2.2 = true then (some ((([a1]:List ByteArray)),bt198.2.1,bt198.2.2.1)) else ((spec_l2Of.f k l0 (⟨#[42]⟩:ByteArray)).bind fun bt210=>(some ((([a1]:List ByteArray)),bt210.2.1,bt210.2.2.1))))) = some (r1,r2,r3):=h
 clear h
 replace H:=Option.bind_eq_some_iff.mp H
 obtain ⟨⟨t198,t201,t204,t205⟩,A30,H⟩:=H
 replace H:(if t205 = true then (some ((([a1]:List ByteArray)),t201,t204)) else ((spec_l2Of.f k l0 (⟨#[42]⟩:ByteArray)).bind fun bt210=>(some ((([a1]:List ByteArray)),bt210.2.1,bt210.2.2.1)))) = some (r1,r2,r3):=H
 have A3:=Aside0.mk A30
 clear A30
 by_cases c4:t205 = true
 ·subst c4
  have H1:(some ((([a1]:List ByteArray)),t201,t204)) = some (r1,r2,r3):=by rw [if_pos rfl] at H;exact H
  clear H
  have H:=H1
  clear H1
  obtain ⟨y207,hy207⟩:∃ y_:List ByteArray,y_ = (([a1]:List ByteArray)):=⟨_,rfl⟩
  replace H:(some (y207,t201,t204)) = some (r1,r2,r3):=by first|(rw [hy207];with_reducible exact H)|(have H2_:=(Option.bind_some _ _).symm.trans H;rw [hy207];with_reducible exact H2_)|(have H2_:=(Option.bind_some _ _).symm.trans H;with_reducible exact H2_)|with_reducible exact H|(rw [hy207];exact H)|exact H
  have Ny207:=Aside0.mk hy207
  clear hy207
  simp only [Option.some.injEq,Prod.mk.injEq] at H
  obtain ⟨rfl,rfl,rfl⟩:=H
  go_enter Try.func14,Try.ntmps14
  go_wp2_with (first|((with_reducible refine gate_dst (N:=4) rfl ?_);refine box_event ?hg (N:=4) ?hd (cs:=#[.slice none 0 0, .slice none 0 0, .int .i64 0]) (t:=30) ?hr ?_;(case hd=>rfl);(case hg=>rfl);(case hr=>first|(go_simp;done)|(go_simp;rfl));intro gb197 hg w5 hbox hb;have n0_:=Aside0.mk (below_step (by repeat (first|(with_reducible first|exact HB.out|apply below_alloc|apply pw_below_drewN|apply below_drew1)|exact HB.out)) hb);have n1_:=Aside0.mk (hbox);have n2_:=Aside0.mk ((by rw [hg];exact (below_size (by repeat (first|(with_reducible first|exact HB.out|apply below_alloc|apply pw_below_drewN|apply below_drew1)|exact HB.out))):w.heap.size ≤ gb197));have n3_:=n2_;clear HB;have HB:=n0_;have BK197:=n1_;have GW197:=n2_;have GE197:=n3_;clear n0_ n1_ n2_ n3_;clear hb hbox hg)|((with_reducible refine gate_callee (f:=35) rfl ?_);refine goesL_ (some 10) rfl rfl Try.func35 (by kernel_rfl) rfl #[.slice A0 l0.length c0, .string a1] rfl (by (try simp only [List.map_toArray,List.map_cons,List.map_nil]);first|done|rfl|(simp only [List.length_drop,List.length_take];rfl)) ?_;(with_reducible refine (spec_l2Of.calls k _ _ l0 a1 t198 t201 t204 true _ ?side1 ?side2 A3.out).mono ?_);(case side1=>repeat (first|exact (Kd.C_below HR0.out HB.out)|(with_reducible refine Kd.C_alloc ?_ _)|(with_reducible refine Kd.C_drewN ?_ _)|(with_reducible refine Kd.C_drew ?_)));(case side2=>exact HC0.out);rintro e w6 ⟨v199,v202,rfl,ho0,ho1,hb⟩;refine ⟨_,rfl,?_⟩;have n0_:=Aside0.mk (Kd.R_lower ho0 (below_size (by repeat (first|(with_reducible first|exact HB.out|apply below_alloc|apply pw_below_drewN|apply below_drew1|refine below_set ?_ GE197.out)|exact HB.out))));have n1_:=Aside0.mk (Kd.R_lower ho1 (below_size (by repeat (first|(with_reducible first|exact HB.out|apply below_alloc|apply pw_below_drewN|apply below_drew1|refine below_set ?_ GE197.out)|exact HB.out))));have n2_:=Aside0.mk (blk_below (g:=gb197) (o:=.cells #[.slice none 0 0, .slice none 0 0, .int .i64 0] 30 (0,0)) (by (with_reducible repeat (first|refine blk_drewN ?_ _|refine blk_drew ?_|refine blk_alloc ?_ _));exact BK197.out) hb);have n3_:=Aside0.mk (below_step (by repeat (first|(with_reducible first|exact HB.out|apply below_alloc|apply pw_below_drewN|apply below_drew1|refine below_set ?_ GE197.out)|exact HB.out)) hb);clear BK197;clear HB;have HO200:=n0_;have HO203:=n1_;have BK197:=n2_;have HB:=n3_;clear n0_ n1_ n2_ n3_;(try clear hb);(try clear hb2);(try clear hk);(try clear hi);(try clear ho0);(try clear ho1))|((with_reducible refine gate_dst (N:=5) rfl ?_);refine box_event ?hg (N:=5) ?hd (cs:=#[.slice none 0 0, .slice none 0 0, .int .i64 0]) (t:=30) ?hr ?_;(case hd=>rfl);(case hg=>rfl);(case hr=>first|(go_simp;done)|(go_simp;rfl));intro gb206 hg w7 hbox hb;have n0_:=Aside0.mk (Kd.R_below (by (with_reducible repeat (first|apply Kd.R_alloc|apply Kd.R_drewN|apply Kd.R_drew));exact HO200.out) hb);have n1_:=Aside0.mk (Kd.R_below (by (with_reducible repeat (first|apply Kd.R_alloc|apply Kd.R_drewN|apply Kd.R_drew));exact HO203.out) hb);have n2_:=Aside0.mk (blk_below (g:=gb197) (o:=.cells #[.slice none 0 0, .slice none 0 0, .int .i64 0] 30 (0,0)) (by (with_reducible repeat (first|refine blk_drewN ?_ _|refine blk_drew ?_|refine blk_alloc ?_ _));exact BK197.out) hb);have n3_:=Aside0.mk (below_step (by repeat (first|(with_reducible first|exact HB.out|apply below_alloc|apply pw_below_drewN|apply below_drew1|refine below_set ?_ GE197.out)|exact HB.out)) hb);have n4_:=Aside0.mk (hbox);have n5_:=Aside0.mk ((by rw [hg];exact (below_size (by repeat (first|(with_reducible first|exact HB.out|apply below_alloc|apply pw_below_drewN|apply below_drew1|refine below_set ?_ GE197.out)|exact HB.out))):w.heap.size ≤ gb206));have n6_:=n5_;have n7_:=Aside0.mk ((by rw [hg];exact Nat.ne_of_lt (blk_lt (g:=gb197) (o:=.cells #[.slice none 0 0, .slice none 0 0, .int .i64 0] 30 (0,0)) (by (with_reducible repeat (first|refine blk_drewN ?_ _|refine blk_drew ?_|refine blk_alloc ?_ _));exact BK197.out)):gb197 ≠ gb206));have n8_:=Aside0.mk ((by rw [hg];exact Nat.ne_of_gt (blk_lt (g:=gb197) (o:=.cells #[.slice none 0 0, .slice none 0 0, .int .i64 0] 30 (0,0)) (by (with_reducible repeat (first|refine blk_drewN ?_ _|refine blk_drew ?_|refine blk_alloc ?_ _));exact BK197.out)):gb206 ≠ gb197));clear HO200;clear HO203;clear BK197;clear HB;have HO200:=n0_;have HO203:=n1_;have BK197:=n2_;have HB:=n3_;have BK206:=n4_;have GW206:=n5_;have GE206:=n6_;have NB197_206:=n7_;have NB206_197:=n8_;clear n0_ n1_ n2_ n3_ n4_ n5_ n6_ n7_ n8_;clear hb hbox hg;obtain ⟨Ao8,co8,eo8⟩:=Kd.R_slice HO200.out;subst eo8;have hnb9:=NB206_197.out;have hnc9:=NB197_206.out;have hcz10_0:w7.cell? ⟨gb206,0,none⟩ = some (.slice none 0 0):=(blk_cell BK206.out 0).trans rfl;have hcz10_1:w7.cell? ⟨gb206,1,none⟩ = some (.slice none 0 0):=(blk_cell BK206.out 1).trans rfl;have hcz10_2:w7.cell? ⟨gb206,2,none⟩ = some (.int .i64 0):=(blk_cell BK206.out 2).trans rfl;have hfz10_0:=blk_frozen BK206.out 0;have hfz10_1:=blk_frozen BK206.out 1;have hfz10_2:=blk_frozen BK206.out 2;obtain ⟨Ao11,co11,eo11⟩:=Kd.R_slice HO203.out;subst eo11)|((with_reducible refine gate_dst (N:=21) rfl ?_);refine Kd.R_lit Kd.string _ 9 ?hg (N:=21) ?hd (xs:=([a1]:List ByteArray)) (inner:=[.string a1]) (ok:=fun _=>True) (okp:=fun _=>True) ?hr ?hp (fun _ hk=>hk) trivial (Below.refl _ _) (Nat.le_refl _) (by simp) ?_;(case hd=>rfl);(case hg=>rfl);(case hr=>first|(go_simp;done)|(go_simp;rfl));(case hp=>exact (Reps.one (show Kd.M Kd.string _ _ _ a1 [.string a1] from rfl) (Reps.none _ _)));intro v208 w12 ho13 hb hg_ hnew_;clear hg_ hnew_;(first|rw [← Ny207.out] at ho13|(simp only [Int.reduceToNat] at ho13;rw [← Ny207.out] at ho13));have n0_:=Aside0.mk (Kd.R_elder' (by (with_reducible repeat (first|apply Kd.R_alloc|apply Kd.R_drewN|apply Kd.R_drew));exact (Kd.R_mono (Kd.R_far (p:=⟨gb206,2,none⟩) (Kd.R_far (p:=⟨gb206,1,none⟩) (Kd.R_far (p:=⟨gb206,0,none⟩) (Kd.R_types HO200.out BK206.out (by decide)) (fun _ hk=>hk.2) (.slice Ao8 t198.length co8)) (fun _ hk=>hk.2) (.slice Ao11 t201.length co11)) (fun _ hk=>hk.2) (.int .i64 t204)) (fun _ h_=>h_.1))) (Kd.R_base ho13) hb);have n1_:=Aside0.mk (Kd.R_below (by (with_reducible repeat (first|apply Kd.R_alloc|apply Kd.R_drewN|apply Kd.R_drew));exact (Kd.R_mono (Kd.R_far (p:=⟨gb206,2,none⟩) (Kd.R_far (p:=⟨gb206,1,none⟩) (Kd.R_far (p:=⟨gb206,0,none⟩) (Kd.R_types HO203.out BK206.out (by decide)) (fun _ hk=>hk.2) (.slice Ao8 t198.length co8)) (fun _ hk=>hk.2) (.slice Ao11 t201.length co11)) (fun _ hk=>hk.2) (.int .i64 t204)) (fun _ h_=>h_.1))) hb);have n2_:=Aside0.mk (Kd.R_lower (Kd.R_new' ho13 (Kd.R_lt (by (with_reducible repeat (first|apply Kd.R_alloc|apply Kd.R_drewN|apply Kd.R_drew));exact (Kd.R_mono (Kd.R_far (p:=⟨gb206,2,none⟩) (Kd.R_far (p:=⟨gb206,1,none⟩) (Kd.R_far (p:=⟨gb206,0,none⟩) (Kd.R_types HO200.out BK206.out (by decide)) (fun _ hk=>hk.2) (.slice Ao8 t198.length co8)) (fun _ hk=>hk.2) (.slice Ao11 t201.length co11)) (fun _ hk=>hk.2) (.int .i64 t204)) (fun _ h_=>h_.1))))) (below_size (by repeat (first|(with_reducible first|exact HB.out|apply below_alloc|apply pw_below_drewN|apply below_drew1|refine below_set ?_ GE197.out|refine below_set ?_ GE206.out)|exact HB.out))));have n3_:=Aside0.mk (blk_below (g:=gb197) (o:=.cells #[.slice none 0 0, .slice none 0 0, .int .i64 0] 30 (0,0)) (by (with_reducible repeat (first|refine blk_drewN ?_ _|refine blk_drew ?_|refine blk_alloc ?_ _));refine blk_far ?_ NB197_206.out _;(with_reducible repeat (first|refine blk_drewN ?_ _|refine blk_drew ?_|refine blk_alloc ?_ _));refine blk_far ?_ NB197_206.out _;(with_reducible repeat (first|refine blk_drewN ?_ _|refine blk_drew ?_|refine blk_alloc ?_ _));refine blk_far ?_ NB197_206.out _;(with_reducible repeat (first|refine blk_drewN ?_ _|refine blk_drew ?_|refine blk_alloc ?_ _));exact BK197.out) hb);have n4_:=Aside0.mk (blk_below (g:=gb206) (o:=.cells #[.slice Ao8 t198.length co8, .slice Ao11 t201.length co11, .int .i64 t204] 30 (0,0)) (by (with_reducible repeat (first|refine blk_drewN ?_ _|refine blk_drew ?_|refine blk_alloc ?_ _));refine blk_put (cs:=#[.slice Ao8 t198.length co8, .slice Ao11 t201.length co11, .int .i64 0]) ?_ 2 _ rfl;(with_reducible repeat (first|refine blk_drewN ?_ _|refine blk_drew ?_|refine blk_alloc ?_ _));refine blk_put (cs:=#[.slice Ao8 t198.length co8, .slice none 0 0, .int .i64 0]) ?_ 1 _ rfl;(with_reducible repeat (first|refine blk_drewN ?_ _|refine blk_drew ?_|refine blk_alloc ?_ _));refine blk_put (cs:=#[.slice none 0 0, .slice none 0 0, .int .i64 0]) ?_ 0 _ rfl;(with_reducible repeat (first|refine blk_drewN ?_ _|refine blk_drew ?_|refine blk_alloc ?_ _));exact BK206.out) hb);have n5_:=Aside0.mk (below_step (by repeat (first|(with_reducible first|exact HB.out|apply below_alloc|apply pw_below_drewN|apply below_drew1|refine below_set ?_ GE197.out|refine below_set ?_ GE206.out)|exact HB.out)) hb);clear HO200;clear HO203;clear BK197;clear BK206;clear HB;have HO200:=n0_;have HO203:=n1_;have HO209:=n2_;have BK197:=n3_;have BK206:=n4_;have HB:=n5_;clear n0_ n1_ n2_ n3_ n4_ n5_;clear hb ho13;obtain ⟨Ao14,co14,eo14⟩:=Kd.R_slice HO209.out;subst eo14;have hcz15_0:w12.cell? ⟨gb206,0,none⟩ = some (.slice Ao8 t198.length co8):=(blk_cell BK206.out 0).trans rfl;have hcz15_1:w12.cell? ⟨gb206,1,none⟩ = some (.slice Ao11 t201.length co11):=(blk_cell BK206.out 1).trans rfl;have hcz15_2:w12.cell? ⟨gb206,2,none⟩ = some (.int .i64 t204):=(blk_cell BK206.out 2).trans rfl;have hfz15_0:=blk_frozen BK206.out 0;have hfz15_1:=blk_frozen BK206.out 1;have hfz15_2:=blk_frozen BK206.out 2;have hcz16_0:w12.cell? ⟨gb197,0,none⟩ = some (.slice none 0 0):=(blk_cell BK197.out 0).trans rfl;have hcz16_1:w12.cell? ⟨gb197,1,none⟩ = some (.slice none 0 0):=(blk_cell BK197.out 1).trans rfl;have hcz16_2:w12.cell? ⟨gb197,2,none⟩ = some (.int .i64 0):=(blk_cell BK197.out 2).trans rfl;have hfz16_0:=blk_frozen BK197.out 0;have hfz16_1:=blk_frozen BK197.out 1;have hfz16_2:=blk_frozen BK197.out 2))
  refine bodyPost_ret (results_cell_row rfl _ _ gb197 30 #[.slice Ao14 y207.length co14, .slice Ao11 t201.length co11, .int .i64 t204] (0,0) _ rfl (by (with_reducible repeat (first|refine blk_drewN ?_ _|refine blk_drew ?_|refine blk_alloc ?_ _));refine blk_put (cs:=#[.slice Ao14 y207.length co14, .slice Ao11 t201.length co11, .int .i64 0]) ?_ 2 _ rfl;(with_reducible repeat (first|refine blk_drewN ?_ _|refine blk_drew ?_|refine blk_alloc ?_ _));refine blk_put (cs:=#[.slice Ao14 y207.length co14, .slice none 0 0, .int .i64 0]) ?_ 1 _ rfl;(with_reducible repeat (first|refine blk_drewN ?_ _|refine blk_drew ?_|refine blk_alloc ?_ _));refine blk_put (cs:=#[.slice none 0 0, .slice none 0 0, .int .i64 0]) ?_ 0 _ rfl;(with_reducible repeat (first|refine blk_drewN ?_ _|refine blk_drew ?_|refine blk_alloc ?_ _));refine blk_far ?_ NB197_206.out _;(with_reducible repeat (first|refine blk_drewN ?_ _|refine blk_drew ?_|refine blk_alloc ?_ _));exact BK197.out) Try.underlying30 rfl (by kernel_rfl)) rfl ?_
  exact ⟨_,_,by first|rfl|(simp <;> rfl)|(simp [*] <;> rfl),by (with_reducible repeat (first|apply Kd.R_alloc|apply Kd.R_drewN|apply Kd.R_drew));exact Kd.R_mono (Kd.R_far (p:=⟨gb197,2,none⟩) (Kd.R_far (p:=⟨gb197,1,none⟩) (Kd.R_far (p:=⟨gb197,0,none⟩) (Kd.R_far (p:=⟨gb206,0,none⟩) (Kd.R_types (Kd.R_types HO209.out BK206.out (by decide)) BK197.out (by decide)) (fun _ hk=>hk.1.2) (.slice Ao14 y207.length co14)) (fun _ hk=>hk.2) (.slice Ao14 y207.length co14)) (fun _ hk=>hk.2) (.slice Ao11 t201.length co11)) (fun _ hk=>hk.2) (.int .i64 t204)) (fun _ hk=>trivial),by (with_reducible repeat (first|apply Kd.R_alloc|apply Kd.R_drewN|apply Kd.R_drew));exact Kd.R_mono (Kd.R_far (p:=⟨gb197,2,none⟩) (Kd.R_far (p:=⟨gb197,1,none⟩) (Kd.R_far (p:=⟨gb197,0,none⟩) (Kd.R_far (p:=⟨gb206,0,none⟩) (Kd.R_types (Kd.R_types HO203.out BK206.out (by decide)) BK197.out (by decide)) (fun _ hk=>hk.1.2) (.slice Ao14 y207.length co14)) (fun _ hk=>hk.2) (.slice Ao14 y207.length co14)) (fun _ hk=>hk.2) (.slice Ao11 t201.length co11)) (fun _ hk=>hk.2) (.int .i64 t204)) (fun _ hk=>trivial),by repeat (first|(with_reducible first|exact HB.out|apply below_alloc|apply pw_below_drewN|apply below_drew1|refine below_set ?_ GE197.out|refine below_set ?_ GE206.out)|exact HB.out)⟩
 ·replace c4:=Bool.eq_false_iff.mpr c4
  subst c4
  have H1:((spec_l2Of.f k l0 (⟨#[42]⟩:ByteArray)).bind fun bt210=>(some ((([a1]:List ByteArray)),bt210.2.1,bt210.2.2.1))) = some (r1,r2,r3):=by rw [if_neg (show ¬ (false = true) by decide)] at H;exact H
  clear H
  have H:=H1
  clear H1
  replace H:=Option.bind_eq_some_iff.mp H
  obtain ⟨⟨t210,t213,t216,t217⟩,A170,H⟩:=H
  replace H:(some ((([a1]:List ByteArray)),t213,t216)) = some (r1,r2,r3):=H
  have A17:=Aside0.mk A170
  clear A170
  obtain ⟨y218,hy218⟩:∃ y_:List ByteArray,y_ = (([a1]:List ByteArray)):=⟨_,rfl⟩
  replace H:(some (y218,t213,t216)) = some (r1,r2,r3):=by first|(rw [hy218];with_reducible exact H)|(have H2_:=(Option.bind_some _ _).symm.trans H;rw [hy218];with_reducible exact H2_)|(have H2_:=(Option.bind_some _ _).symm.trans H;with_reducible exact H2_)|with_reducible exact H|(rw [hy218];exact H)|exact H
  have Ny218:=Aside0.mk hy218
  clear hy218
  simp only [Option.some.injEq,Prod.mk.injEq] at H
  obtain ⟨rfl,rfl,rfl⟩:=H
  go_enter Try.func14,Try.ntmps14
  go_wp2_with (first|((with_reducible refine gate_dst (N:=4) rfl ?_);refine box_event ?hg (N:=4) ?hd (cs:=#[.slice none 0 0, .slice none 0 0, .int .i64 0]) (t:=30) ?hr ?_;(case hd=>rfl);(case hg=>rfl);(case hr=>first|(go_simp;done)|(go_simp;rfl));intro gb197 hg w18 hbox hb;have n0_:=Aside0.mk (below_step (by repeat (first|(with_reducible first|exact HB.out|apply below_alloc|apply pw_below_drewN|apply below_drew1)|exact HB.out)) hb);have n1_:=Aside0.mk (hbox);have n2_:=Aside0.mk ((by rw [hg];exact (below_size (by repeat (first|(with_reducible first|exact HB.out|apply below_alloc|apply pw_below_drewN|apply below_drew1)|exact HB.out))):w.heap.size ≤ gb197));have n3_:=n2_;clear HB;have HB:=n0_;have BK197:=n1_;have GW197:=n2_;have GE197:=n3_;clear n0_ n1_ n2_ n3_;clear hb hbox hg)|((with_reducible refine gate_callee (f:=35) rfl ?_);refine goesL_ (some 10) rfl rfl Try.func35 (by kernel_rfl) rfl #[.slice A0 l0.length c0, .string a1] rfl (by (try simp only [List.map_toArray,List.map_cons,List.map_nil]);first|done|rfl|(simp only [List.length_drop,List.length_take];rfl)) ?_;(with_reducible refine (spec_l2Of.calls k _ _ l0 a1 t198 t201 t204 false _ ?side1 ?side2 A3.out).mono ?_);(case side1=>repeat (first|exact (Kd.C_below HR0.out HB.out)|(with_reducible refine Kd.C_alloc ?_ _)|(with_reducible refine Kd.C_drewN ?_ _)|(with_reducible refine Kd.C_drew ?_)));(case side2=>exact HC0.out);rintro e w19 ⟨v199,v202,rfl,ho0,ho1,hb⟩;refine ⟨_,rfl,?_⟩;have n0_:=Aside0.mk (Kd.R_lower ho0 (below_size (by repeat (first|(with_reducible first|exact HB.out|apply below_alloc|apply pw_below_drewN|apply below_drew1|refine below_set ?_ GE197.out)|exact HB.out))));have n1_:=Aside0.mk (Kd.R_lower ho1 (below_size (by repeat (first|(with_reducible first|exact HB.out|apply below_alloc|apply pw_below_drewN|apply below_drew1|refine below_set ?_ GE197.out)|exact HB.out))));have n2_:=Aside0.mk (blk_below (g:=gb197) (o:=.cells #[.slice none 0 0, .slice none 0 0, .int .i64 0] 30 (0,0)) (by (with_reducible repeat (first|refine blk_drewN ?_ _|refine blk_drew ?_|refine blk_alloc ?_ _));exact BK197.out) hb);have n3_:=Aside0.mk (below_step (by repeat (first|(with_reducible first|exact HB.out|apply below_alloc|apply pw_below_drewN|apply below_drew1|refine below_set ?_ GE197.out)|exact HB.out)) hb);clear BK197;clear HB;have HO200:=n0_;have HO203:=n1_;have BK197:=n2_;have HB:=n3_;clear n0_ n1_ n2_ n3_;(try clear hb);(try clear hb2);(try clear hk);(try clear hi);(try clear ho0);(try clear ho1))|((with_reducible refine gate_dst (N:=5) rfl ?_);refine box_event ?hg (N:=5) ?hd (cs:=#[.slice none 0 0, .slice none 0 0, .int .i64 0]) (t:=30) ?hr ?_;(case hd=>rfl);(case hg=>rfl);(case hr=>first|(go_simp;done)|(go_simp;rfl));intro gb206 hg w20 hbox hb;have n0_:=Aside0.mk (Kd.R_below (by (with_reducible repeat (first|apply Kd.R_alloc|apply Kd.R_drewN|apply Kd.R_drew));exact HO200.out) hb);have n1_:=Aside0.mk (Kd.R_below (by (with_reducible repeat (first|apply Kd.R_alloc|apply Kd.R_drewN|apply Kd.R_drew));exact HO203.out) hb);have n2_:=Aside0.mk (blk_below (g:=gb197) (o:=.cells #[.slice none 0 0, .slice none 0 0, .int .i64 0] 30 (0,0)) (by (with_reducible repeat (first|refine blk_drewN ?_ _|refine blk_drew ?_|refine blk_alloc ?_ _));exact BK197.out) hb);have n3_:=Aside0.mk (below_step (by repeat (first|(with_reducible first|exact HB.out|apply below_alloc|apply pw_below_drewN|apply below_drew1|refine below_set ?_ GE197.out)|exact HB.out)) hb);have n4_:=Aside0.mk (hbox);have n5_:=Aside0.mk ((by rw [hg];exact (below_size (by repeat (first|(with_reducible first|exact HB.out|apply below_alloc|apply pw_below_drewN|apply below_drew1|refine below_set ?_ GE197.out)|exact HB.out))):w.heap.size ≤ gb206));have n6_:=n5_;have n7_:=Aside0.mk ((by rw [hg];exact Nat.ne_of_lt (blk_lt (g:=gb197) (o:=.cells #[.slice none 0 0, .slice none 0 0, .int .i64 0] 30 (0,0)) (by (with_reducible repeat (first|refine blk_drewN ?_ _|refine blk_drew ?_|refine blk_alloc ?_ _));exact BK197.out)):gb197 ≠ gb206));have n8_:=Aside0.mk ((by rw [hg];exact Nat.ne_of_gt (blk_lt (g:=gb197) (o:=.cells #[.slice none 0 0, .slice none 0 0, .int .i64 0] 30 (0,0)) (by (with_reducible repeat (first|refine blk_drewN ?_ _|refine blk_drew ?_|refine blk_alloc ?_ _));exact BK197.out)):gb206 ≠ gb197));clear HO200;clear HO203;clear BK197;clear HB;have HO200:=n0_;have HO203:=n1_;have BK197:=n2_;have HB:=n3_;have BK206:=n4_;have GW206:=n5_;have GE206:=n6_;have NB197_206:=n7_;have NB206_197:=n8_;clear n0_ n1_ n2_ n3_ n4_ n5_ n6_ n7_ n8_;clear hb hbox hg;obtain ⟨Ao21,co21,eo21⟩:=Kd.R_slice HO200.out;subst eo21;have hnb22:=NB206_197.out;have hnc22:=NB197_206.out;have hcz23_0:w20.cell? ⟨gb206,0,none⟩ = some (.slice none 0 0):=(blk_cell BK206.out 0).trans rfl;have hcz23_1:w20.cell? ⟨gb206,1,none⟩ = some (.slice none 0 0):=(blk_cell BK206.out 1).trans rfl;have hcz23_2:w20.cell? ⟨gb206,2,none⟩ = some (.int .i64 0):=(blk_cell BK206.out 2).trans rfl;have hfz23_0:=blk_frozen BK206.out 0;have hfz23_1:=blk_frozen BK206.out 1;have hfz23_2:=blk_frozen BK206.out 2;obtain ⟨Ao24,co24,eo24⟩:=Kd.R_slice HO203.out;subst eo24)|((with_reducible refine gate_callee (f:=35) rfl ?_);refine goesL_ (some 17) rfl rfl Try.func35 (by kernel_rfl) rfl #[.slice A0 l0.length c0, .string (⟨#[42]⟩:ByteArray)] rfl (by (try simp only [List.map_toArray,List.map_cons,List.map_nil]);first|done|rfl|(simp only [List.length_drop,List.length_take];rfl)) ?_;(with_reducible refine (spec_l2Of.calls k _ _ l0 (⟨#[42]⟩:ByteArray) t210 t213 t216 t217 _ ?side1 ?side2 A17.out).mono ?_);(case side1=>exact Kd.C_below HR0.out (by repeat (first|(with_reducible first|exact HB.out|apply below_alloc|apply pw_below_drewN|apply below_drew1|refine below_set ?_ GE197.out|refine below_set ?_ GE206.out)|exact HB.out)));(case side2=>exact HC0.out);rintro e w25 ⟨v211,v214,rfl,ho0,ho1,hb⟩;refine ⟨_,rfl,?_⟩;have n0_:=Aside0.mk (Kd.R_elder' (by (with_reducible repeat (first|apply Kd.R_alloc|apply Kd.R_drewN|apply Kd.R_drew));exact (Kd.R_mono (Kd.R_far (p:=⟨gb206,2,none⟩) (Kd.R_far (p:=⟨gb206,1,none⟩) (Kd.R_far (p:=⟨gb206,0,none⟩) (Kd.R_types HO200.out BK206.out (by decide)) (fun _ hk=>hk.2) (.slice Ao21 t198.length co21)) (fun _ hk=>hk.2) (.slice Ao24 t201.length co24)) (fun _ hk=>hk.2) (.int .i64 t204)) (fun _ h_=>h_.1))) (Kd.R_base ho0) hb);have n1_:=Aside0.mk (Kd.R_elder' (by (with_reducible repeat (first|apply Kd.R_alloc|apply Kd.R_drewN|apply Kd.R_drew));exact (Kd.R_mono (Kd.R_far (p:=⟨gb206,2,none⟩) (Kd.R_far (p:=⟨gb206,1,none⟩) (Kd.R_far (p:=⟨gb206,0,none⟩) (Kd.R_types HO203.out BK206.out (by decide)) (fun _ hk=>hk.2) (.slice Ao21 t198.length co21)) (fun _ hk=>hk.2) (.slice Ao24 t201.length co24)) (fun _ hk=>hk.2) (.int .i64 t204)) (fun _ h_=>h_.1))) (Kd.R_base ho1) hb);have n2_:=Aside0.mk (Kd.R_lower (Kd.R_new' ho0 (Kd.R_lt (by (with_reducible repeat (first|apply Kd.R_alloc|apply Kd.R_drewN|apply Kd.R_drew));exact (Kd.R_mono (Kd.R_far (p:=⟨gb206,2,none⟩) (Kd.R_far (p:=⟨gb206,1,none⟩) (Kd.R_far (p:=⟨gb206,0,none⟩) (Kd.R_types HO200.out BK206.out (by decide)) (fun _ hk=>hk.2) (.slice Ao21 t198.length co21)) (fun _ hk=>hk.2) (.slice Ao24 t201.length co24)) (fun _ hk=>hk.2) (.int .i64 t204)) (fun _ h_=>h_.1))))) (below_size (by repeat (first|(with_reducible first|exact HB.out|apply below_alloc|apply pw_below_drewN|apply below_drew1|refine below_set ?_ GE197.out|refine below_set ?_ GE206.out)|exact HB.out))));have n3_:=Aside0.mk (Kd.R_lower (Kd.R_new' ho1 (Kd.R_lt (by (with_reducible repeat (first|apply Kd.R_alloc|apply Kd.R_drewN|apply Kd.R_drew));exact (Kd.R_mono (Kd.R_far (p:=⟨gb206,2,none⟩) (Kd.R_far (p:=⟨gb206,1,none⟩) (Kd.R_far (p:=⟨gb206,0,none⟩) (Kd.R_types HO203.out BK206.out (by decide)) (fun _ hk=>hk.2) (.slice Ao21 t198.length co21)) (fun _ hk=>hk.2) (.slice Ao24 t201.length co24)) (fun _ hk=>hk.2) (.int .i64 t204)) (fun _ h_=>h_.1))))) (below_size (by repeat (first|(with_reducible first|exact HB.out|apply below_alloc|apply pw_below_drewN|apply below_drew1|refine below_set ?_ GE197.out|refine below_set ?_ GE206.out)|exact HB.out))));have n4_:=Aside0.mk (blk_below (g:=gb197) (o:=.cells #[.slice none 0 0, .slice none 0 0, .int .i64 0] 30 (0,0)) (by (with_reducible repeat (first|refine blk_drewN ?_ _|refine blk_drew ?_|refine blk_alloc ?_ _));refine blk_far ?_ NB197_206.out _;(with_reducible repeat (first|refine blk_drewN ?_ _|refine blk_drew ?_|refine blk_alloc ?_ _));refine blk_far ?_ NB197_206.out _;(with_reducible repeat (first|refine blk_drewN ?_ _|refine blk_drew ?_|refine blk_alloc ?_ _));refine blk_far ?_ NB197_206.out _;(with_reducible repeat (first|refine blk_drewN ?_ _|refine blk_drew ?_|refine blk_alloc ?_ _));exact BK197.out) hb);have n5_:=Aside0.mk (blk_below (g:=gb206) (o:=.cells #[.slice Ao21 t198.length co21, .slice Ao24 t201.length co24, .int .i64 t204] 30 (0,0)) (by (with_reducible repeat (first|refine blk_drewN ?_ _|refine blk_drew ?_|refine blk_alloc ?_ _));refine blk_put (cs:=#[.slice Ao21 t198.length co21, .slice Ao24 t201.length co24, .int .i64 0]) ?_ 2 _ rfl;(with_reducible repeat (first|refine blk_drewN ?_ _|refine blk_drew ?_|refine blk_alloc ?_ _));refine blk_put (cs:=#[.slice Ao21 t198.length co21, .slice none 0 0, .int .i64 0]) ?_ 1 _ rfl;(with_reducible repeat (first|refine blk_drewN ?_ _|refine blk_drew ?_|refine blk_alloc ?_ _));refine blk_put (cs:=#[.slice none 0 0, .slice none 0 0, .int .i64 0]) ?_ 0 _ rfl;(with_reducible repeat (first|refine blk_drewN ?_ _|refine blk_drew ?_|refine blk_alloc ?_ _));exact BK206.out) hb);have n6_:=Aside0.mk (below_step (by repeat (first|(with_reducible first|exact HB.out|apply below_alloc|apply pw_below_drewN|apply below_drew1|refine below_set ?_ GE197.out|refine below_set ?_ GE206.out)|exact HB.out)) hb);clear HO200;clear HO203;clear BK197;clear BK206;clear HB;have HO200:=n0_;have HO203:=n1_;have HO212:=n2_;have HO215:=n3_;have BK197:=n4_;have BK206:=n5_;have HB:=n6_;clear n0_ n1_ n2_ n3_ n4_ n5_ n6_;(try clear hb);(try clear hb2);(try clear hk);(try clear hi);(try clear ho0);(try clear ho1);obtain ⟨Ao26,co26,eo26⟩:=Kd.R_slice HO212.out;subst eo26;have hcz27_0:w25.cell? ⟨gb206,0,none⟩ = some (.slice Ao21 t198.length co21):=(blk_cell BK206.out 0).trans rfl;have hcz27_1:w25.cell? ⟨gb206,1,none⟩ = some (.slice Ao24 t201.length co24):=(blk_cell BK206.out 1).trans rfl;have hcz27_2:w25.cell? ⟨gb206,2,none⟩ = some (.int .i64 t204):=(blk_cell BK206.out 2).trans rfl;have hfz27_0:=blk_frozen BK206.out 0;have hfz27_1:=blk_frozen BK206.out 1;have hfz27_2:=blk_frozen BK206.out 2;obtain ⟨Ao28,co28,eo28⟩:=Kd.R_slice HO215.out;subst eo28)|((with_reducible refine gate_dst (N:=21) rfl ?_);refine Kd.R_lit Kd.string _ 9 ?hg (N:=21) ?hd (xs:=([a1]:List ByteArray)) (inner:=[.string a1]) (ok:=fun _=>True) (okp:=fun _=>True) ?hr ?hp (fun _ hk=>hk) trivial (Below.refl _ _) (Nat.le_refl _) (by simp) ?_;(case hd=>rfl);(case hg=>rfl);(case hr=>first|(go_simp;done)|(go_simp;rfl));(case hp=>exact (Reps.one (show Kd.M Kd.string _ _ _ a1 [.string a1] from rfl) (Reps.none _ _)));intro v219 w29 ho30 hb hg_ hnew_;clear hg_ hnew_;(first|rw [← Ny218.out] at ho30|(simp only [Int.reduceToNat] at ho30;rw [← Ny218.out] at ho30));have n0_:=Aside0.mk (Kd.R_elder' (by (with_reducible repeat (first|apply Kd.R_alloc|apply Kd.R_drewN|apply Kd.R_drew));exact (Kd.R_mono (Kd.R_far (p:=⟨gb206,2,none⟩) (Kd.R_far (p:=⟨gb206,1,none⟩) (Kd.R_far (p:=⟨gb206,0,none⟩) (Kd.R_types HO200.out BK206.out (by decide)) (fun _ hk=>hk.2) (.slice Ao26 t210.length co26)) (fun _ hk=>hk.2) (.slice Ao28 t213.length co28)) (fun _ hk=>hk.2) (.int .i64 t216)) (fun _ h_=>h_.1))) (Kd.R_base ho30) hb);have n1_:=Aside0.mk (Kd.R_below (by (with_reducible repeat (first|apply Kd.R_alloc|apply Kd.R_drewN|apply Kd.R_drew));exact (Kd.R_mono (Kd.R_far (p:=⟨gb206,2,none⟩) (Kd.R_far (p:=⟨gb206,1,none⟩) (Kd.R_far (p:=⟨gb206,0,none⟩) (Kd.R_types HO203.out BK206.out (by decide)) (fun _ hk=>hk.2) (.slice Ao26 t210.length co26)) (fun _ hk=>hk.2) (.slice Ao28 t213.length co28)) (fun _ hk=>hk.2) (.int .i64 t216)) (fun _ h_=>h_.1))) hb);have n2_:=Aside0.mk (Kd.R_elder' (by (with_reducible repeat (first|apply Kd.R_alloc|apply Kd.R_drewN|apply Kd.R_drew));exact (Kd.R_mono (Kd.R_far (p:=⟨gb206,2,none⟩) (Kd.R_far (p:=⟨gb206,1,none⟩) (Kd.R_far (p:=⟨gb206,0,none⟩) (Kd.R_types HO212.out BK206.out (by decide)) (fun _ hk=>hk.2) (.slice Ao26 t210.length co26)) (fun _ hk=>hk.2) (.slice Ao28 t213.length co28)) (fun _ hk=>hk.2) (.int .i64 t216)) (fun _ h_=>h_.1))) (Kd.R_base ho30) hb);have n3_:=Aside0.mk (Kd.R_below (by (with_reducible repeat (first|apply Kd.R_alloc|apply Kd.R_drewN|apply Kd.R_drew));exact (Kd.R_mono (Kd.R_far (p:=⟨gb206,2,none⟩) (Kd.R_far (p:=⟨gb206,1,none⟩) (Kd.R_far (p:=⟨gb206,0,none⟩) (Kd.R_types HO215.out BK206.out (by decide)) (fun _ hk=>hk.2) (.slice Ao26 t210.length co26)) (fun _ hk=>hk.2) (.slice Ao28 t213.length co28)) (fun _ hk=>hk.2) (.int .i64 t216)) (fun _ h_=>h_.1))) hb);have n4_:=Aside0.mk (Kd.R_lower (Kd.R_new' (Kd.R_new' ho30 (Kd.R_lt (by (with_reducible repeat (first|apply Kd.R_alloc|apply Kd.R_drewN|apply Kd.R_drew));exact (Kd.R_mono (Kd.R_far (p:=⟨gb206,2,none⟩) (Kd.R_far (p:=⟨gb206,1,none⟩) (Kd.R_far (p:=⟨gb206,0,none⟩) (Kd.R_types HO200.out BK206.out (by decide)) (fun _ hk=>hk.2) (.slice Ao26 t210.length co26)) (fun _ hk=>hk.2) (.slice Ao28 t213.length co28)) (fun _ hk=>hk.2) (.int .i64 t216)) (fun _ h_=>h_.1))))) (Kd.R_lt (by (with_reducible repeat (first|apply Kd.R_alloc|apply Kd.R_drewN|apply Kd.R_drew));exact (Kd.R_mono (Kd.R_far (p:=⟨gb206,2,none⟩) (Kd.R_far (p:=⟨gb206,1,none⟩) (Kd.R_far (p:=⟨gb206,0,none⟩) (Kd.R_types HO212.out BK206.out (by decide)) (fun _ hk=>hk.2) (.slice Ao26 t210.length co26)) (fun _ hk=>hk.2) (.slice Ao28 t213.length co28)) (fun _ hk=>hk.2) (.int .i64 t216)) (fun _ h_=>h_.1))))) (below_size (by repeat (first|(with_reducible first|exact HB.out|apply below_alloc|apply pw_below_drewN|apply below_drew1|refine below_set ?_ GE197.out|refine below_set ?_ GE206.out)|exact HB.out))));have n5_:=Aside0.mk (blk_below (g:=gb197) (o:=.cells #[.slice none 0 0, .slice none 0 0, .int .i64 0] 30 (0,0)) (by (with_reducible repeat (first|refine blk_drewN ?_ _|refine blk_drew ?_|refine blk_alloc ?_ _));refine blk_far ?_ NB197_206.out _;(with_reducible repeat (first|refine blk_drewN ?_ _|refine blk_drew ?_|refine blk_alloc ?_ _));refine blk_far ?_ NB197_206.out _;(with_reducible repeat (first|refine blk_drewN ?_ _|refine blk_drew ?_|refine blk_alloc ?_ _));refine blk_far ?_ NB197_206.out _;(with_reducible repeat (first|refine blk_drewN ?_ _|refine blk_drew ?_|refine blk_alloc ?_ _));exact BK197.out) hb);have n6_:=Aside0.mk (blk_below (g:=gb206) (o:=.cells #[.slice Ao26 t210.length co26, .slice Ao28 t213.length co28, .int .i64 t216] 30 (0,0)) (by (with_reducible repeat (first|refine blk_drewN ?_ _|refine blk_drew ?_|refine blk_alloc ?_ _));refine blk_put (cs:=#[.slice Ao26 t210.length co26, .slice Ao28 t213.length co28, .int .i64 t204]) ?_ 2 _ rfl;(with_reducible repeat (first|refine blk_drewN ?_ _|refine blk_drew ?_|refine blk_alloc ?_ _));refine blk_put (cs:=#[.slice Ao26 t210.length co26, .slice Ao24 t201.length co24, .int .i64 t204]) ?_ 1 _ rfl;(with_reducible repeat (first|refine blk_drewN ?_ _|refine blk_drew ?_|refine blk_alloc ?_ _));refine blk_put (cs:=#[.slice Ao21 t198.length co21, .slice Ao24 t201.length co24, .int .i64 t204]) ?_ 0 _ rfl;(with_reducible repeat (first|refine blk_drewN ?_ _|refine blk_drew ?_|refine blk_alloc ?_ _));exact BK206.out) hb);have n7_:=Aside0.mk (below_step (by repeat (first|(with_reducible first|exact HB.out|apply below_alloc|apply pw_below_drewN|apply below_drew1|refine below_set ?_ GE197.out|refine below_set ?_ GE206.out)|exact HB.out)) hb);clear HO200;clear HO203;clear HO212;clear HO215;clear BK197;clear BK206;clear HB;have HO200:=n0_;have HO203:=n1_;have HO212:=n2_;have HO215:=n3_;have HO220:=n4_;have BK197:=n5_;have BK206:=n6_;have HB:=n7_;clear n0_ n1_ n2_ n3_ n4_ n5_ n6_ n7_;clear hb ho30;obtain ⟨Ao31,co31,eo31⟩:=Kd.R_slice HO220.out;subst eo31;have hcz32_0:w29.cell? ⟨gb206,0,none⟩ = some (.slice Ao26 t210.length co26):=(blk_cell BK206.out 0).trans rfl;have hcz32_1:w29.cell? ⟨gb206,1,none⟩ = some (.slice Ao28 t213.length co28):=(blk_cell BK206.out 1).trans rfl;have hcz32_2:w29.cell? ⟨gb206,2,none⟩ = some (.int .i64 t216):=(blk_cell BK206.out 2).trans rfl;have hfz32_0:=blk_frozen BK206.out 0;have hfz32_1:=blk_frozen BK206.out 1;have hfz32_2:=blk_frozen BK206.out 2;have hcz33_0:w29.cell? ⟨gb197,0,none⟩ = some (.slice none 0 0):=(blk_cell BK197.out 0).trans rfl;have hcz33_1:w29.cell? ⟨gb197,1,none⟩ = some (.slice none 0 0):=(blk_cell BK197.out 1).trans rfl;have hcz33_2:w29.cell? ⟨gb197,2,none⟩ = some (.int .i64 0):=(blk_cell BK197.out 2).trans rfl;have hfz33_0:=blk_frozen BK197.out 0;have hfz33_1:=blk_frozen BK197.out 1;have hfz33_2:=blk_frozen BK197.out 2))
  refine bodyPost_ret (results_cell_row rfl _ _ gb197 30 #[.slice Ao31 y218.length co31, .slice Ao28 t213.length co28, .int .i64 t216] (0,0) _ rfl (by (with_reducible repeat (first|refine blk_drewN ?_ _|refine blk_drew ?_|refine blk_alloc ?_ _));refine blk_put (cs:=#[.slice Ao31 y218.length co31, .slice Ao28 t213.length co28, .int .i64 0]) ?_ 2 _ rfl;(with_reducible repeat (first|refine blk_drewN ?_ _|refine blk_drew ?_|refine blk_alloc ?_ _));refine blk_put (cs:=#[.slice Ao31 y218.length co31, .slice none 0 0, .int .i64 0]) ?_ 1 _ rfl;(with_reducible repeat (first|refine blk_drewN ?_ _|refine blk_drew ?_|refine blk_alloc ?_ _));refine blk_put (cs:=#[.slice none 0 0, .slice none 0 0, .int .i64 0]) ?_ 0 _ rfl;(with_reducible repeat (first|refine blk_drewN ?_ _|refine blk_drew ?_|refine blk_alloc ?_ _));refine blk_far ?_ NB197_206.out _;(with_reducible repeat (first|refine blk_drewN ?_ _|refine blk_drew ?_|refine blk_alloc ?_ _));exact BK197.out) Try.underlying30 rfl (by kernel_rfl)) rfl ?_
  exact ⟨_,_,by first|rfl|(simp <;> rfl)|(simp [*] <;> rfl),by (with_reducible repeat (first|apply Kd.R_alloc|apply Kd.R_drewN|apply Kd.R_drew));exact Kd.R_mono (Kd.R_far (p:=⟨gb197,2,none⟩) (Kd.R_far (p:=⟨gb197,1,none⟩) (Kd.R_far (p:=⟨gb197,0,none⟩) (Kd.R_far (p:=⟨gb206,0,none⟩) (Kd.R_types (Kd.R_types HO220.out BK206.out (by decide)) BK197.out (by decide)) (fun _ hk=>hk.1.2) (.slice Ao31 y218.length co31)) (fun _ hk=>hk.2) (.slice Ao31 y218.length co31)) (fun _ hk=>hk.2) (.slice Ao28 t213.length co28)) (fun _ hk=>hk.2) (.int .i64 t216)) (fun _ hk=>trivial),by (with_reducible repeat (first|apply Kd.R_alloc|apply Kd.R_drewN|apply Kd.R_drew));exact Kd.R_mono (Kd.R_far (p:=⟨gb197,2,none⟩) (Kd.R_far (p:=⟨gb197,1,none⟩) (Kd.R_far (p:=⟨gb197,0,none⟩) (Kd.R_far (p:=⟨gb206,0,none⟩) (Kd.R_types (Kd.R_types HO215.out BK206.out (by decide)) BK197.out (by decide)) (fun _ hk=>hk.1.2) (.slice Ao31 y218.length co31)) (fun _ hk=>hk.2) (.slice Ao31 y218.length co31)) (fun _ hk=>hk.2) (.slice Ao28 t213.length co28)) (fun _ hk=>hk.2) (.int .i64 t216)) (fun _ hk=>trivial),by repeat (first|(with_reducible first|exact HB.out|apply below_alloc|apply pw_below_drewN|apply below_drew1|refine below_set ?_ GE197.out|refine below_set ?_ GE206.out)|exact HB.out)⟩

/-! ### slices_Index_string_string: function 51 -/
def slices_Index_string_string.l0:Nat → List ByteArray → ByteArray → Int → Int → Option (Int)
 | 0,_,_,_,_=>none
 | k + 1,x0,x1,x7,x8=>if x8 < x7 then (if 0 ≤ x8 then (if x8 < (x0.length:Int) then (if x1.toList = (rdOf ByteArray.empty x0 x8).toList then (some x8) else (slices_Index_string_string.l0 k x0 x1 x7 (wrap64 (x8 + 1)))) else (none)) else (none)) else (some (-1))
def slices_Index_string_string.f (k:Nat) (l0:List ByteArray) (a1:ByteArray):Option (Int):=slices_Index_string_string.l0 k l0 a1 (l0.length:Int) 0
theorem slices_Index_string_string.mono_l:∀ k,(∀ y0 y1 y2 y3,LeO (slices_Index_string_string.l0 k y0 y1 y2 y3) (slices_Index_string_string.l0 (k + 1) y0 y1 y2 y3))
 | 0=>fun _ _ _ _ r h=>by simp [slices_Index_string_string.l0] at h
 | k + 1=>by
  have ih0:=slices_Index_string_string.mono_l k
  ·intro y0 y1 y2 y3
   unfold slices_Index_string_string.l0
   repeat' first
   | (with_reducible exact ih0 _ _ _ _)
   | (with_reducible exact LeO.refl _)
   | (with_reducible exact LeO.none _)
   | (with_reducible refine LeO.ite ?_ ?_)
   | (with_reducible refine LeO.bind ?_ (fun _=>?_))
   | exact ih0 _ _ _ _
   | exact LeO.none _
   | refine LeO.ite ?_ ?_
   | refine LeO.bind ?_ (fun _=>?_)
theorem slices_Index_string_string.mono:∀ a0 a1 k,LeO (slices_Index_string_string.f k a0 a1) (slices_Index_string_string.f (k + 1) a0 a1):=by
 intro a0 a1 k
 have ih0:=slices_Index_string_string.mono_l k
 unfold slices_Index_string_string.f
 repeat' first
   | (with_reducible exact ih0 _ _ _ _)
   | (with_reducible exact LeO.refl _)
   | (with_reducible exact LeO.none _)
   | (with_reducible refine LeO.ite ?_ ?_)
   | (with_reducible refine LeO.bind ?_ (fun _=>?_))
   | exact ih0 _ _ _ _
   | exact LeO.none _
   | refine LeO.ite ?_ ?_
   | refine LeO.bind ?_ (fun _=>?_)
theorem slices_Index_string_string.calls (k:Nat) (A0:Option Addr) (c0:Nat) (l0:List ByteArray) (a1:ByteArray) (r:Int) (w:World) (hr0:Kd.C Kd.string w A0 l0.length l0) (hc0:l0.length ≤ c0) (h:slices_Index_string_string.f k l0 a1 = some r) :
  Calls Try.prog 51 #[.slice A0 l0.length c0, .string a1] w fun e w'=>e = .returned (.int .i64 r) ∧ Drawn0 w w':=by
 have HR0:=Aside0.mk hr0
 have HC0:=Aside0.mk hc0
 clear hr0 hc0
 have H:(slices_Index_string_string.l0 k l0 a1 (l0.length:Int) 0) = some r:=h
 clear h
 have H':=Aside0.mk H
 clear H
 go_enter Try.func51,Try.ntmps51
 go_wp2
 go_loopg [8] k (fun kq v8 w'=>∃ (x8_1:Int),v8 = .int .i64 x8_1 ∧ Aside0 (slices_Index_string_string.l0 kq l0 a1 (l0.length:Int) x8_1 = some r) ∧ Aside0 (kq ≤ k) ∧ Drawn0 w w')
 case atStart=>exact ⟨(0),(by first|rfl|(simp;done)|(simp only [i64_w,i32_w];done)|(simp only [i64_w,i32_w];rfl)|(simp [*];done)|(simp [emp_bne,emp_beq];done)),H',⟨Nat.le_refl _⟩,by repeat (first|exact Drawn0.refl _|apply Drawn0.step)⟩
 case round =>
  clear H'
  try clear p2
  obtain ⟨x8_1,rfl,HA,HK1,⟨m1,rfl⟩⟩:=hrel
  cases gk with
  | zero=>exact absurd HA.out (by simp [slices_Index_string_string.l0])
  | succ k1 =>
   have H:=HA.out
   clear HA
   simp only [slices_Index_string_string.l0] at H
   by_cases c3:x8_1 < (l0.length:Int)
   ·rw [if_pos c3] at H
    have c3b0:decide (x8_1 < (l0.length:Int)) = true:=decide_eq_true c3
    clear c3
    by_cases c4:0 ≤ x8_1
    ·rw [if_pos c4] at H
     have c4b0:decide (0 ≤ x8_1) = true:=decide_eq_true c4
     clear c4
     by_cases c5:x8_1 < (l0.length:Int)
     ·rw [if_pos c5] at H
      have c5b0:decide (x8_1 < (l0.length:Int)) = true:=decide_eq_true c5
      clear c5
      by_cases c6:a1.toList = (rdOf ByteArray.empty l0 x8_1).toList
      ·rw [if_pos c6] at H
       have c6b0:(a1.toList == (rdOf ByteArray.empty l0 x8_1).toList) = true:=beq_iff_eq.mpr c6
       have c6b1:(a1.toList != (rdOf ByteArray.empty l0 x8_1).toList) = false:=bne_eq_false_iff_eq.mpr c6
       clear c6
       obtain rfl:=Option.some.inj H
       have p221:0 ≤ (x8_1:Int):=of_decide_eq_true (by first|(with_reducible assumption)|assumption)
       have q221:x8_1 < (l0.length:Int):=of_decide_eq_true (by first|(with_reducible assumption)|assumption)
       obtain ⟨ad221,e221,hx221_0⟩:=Kd.at_string HR0.out x8_1 p221 q221
       cases e221
       replace p221:=eq_true p221
       replace q221:=eq_true q221
       go_wp2
       go_ret
       exact ⟨by first|rfl|(simp;done)|(simp only [i64_w,i32_w];done)|(simp only [i64_w,i32_w];rfl)|(simp [*];done)|(simp [emp_bne,emp_beq];done),by repeat (first|exact Drawn0.refl _|apply Drawn0.step)⟩
      ·rw [if_neg c6] at H
       have c6b0:(a1.toList == (rdOf ByteArray.empty l0 x8_1).toList) = false:=beq_eq_false_iff_ne.mpr c6
       have c6b1:(a1.toList != (rdOf ByteArray.empty l0 x8_1).toList) = true:=bne_iff_ne.mpr c6
       have H':=Aside0.mk H
       clear H
       have p221:0 ≤ (x8_1:Int):=of_decide_eq_true (by first|(with_reducible assumption)|assumption)
       have q221:x8_1 < (l0.length:Int):=of_decide_eq_true (by first|(with_reducible assumption)|assumption)
       obtain ⟨ad221,e221,hx221_0⟩:=Kd.at_string HR0.out x8_1 p221 q221
       cases e221
       replace p221:=eq_true p221
       replace q221:=eq_true q221
       go_wp2
       go_roundg k1
       case measure=>have:=HK1.out;omega
       case rel=>exact ⟨(wrap64 (x8_1 + 1)),(by first|rfl|(simp;done)|(simp only [i64_w,i32_w];done)|(simp only [i64_w,i32_w];rfl)|(simp [*];done)|(simp [emp_bne,emp_beq];done)),H',⟨by have:=HK1.out;omega⟩,by repeat (first|exact Drawn0.refl _|apply Drawn0.step)⟩
     ·rw [if_neg c5] at H
      exact absurd H (by simp)
    ·rw [if_neg c4] at H
     exact absurd H (by simp)
   ·rw [if_neg c3] at H
    have c3b0:decide (x8_1 < (l0.length:Int)) = false:=decide_eq_false c3
    clear c3
    obtain rfl:=Option.some.inj H
    go_wp2
    go_ret
    exact ⟨by first|rfl|(simp;done)|(simp only [i64_w,i32_w];done)|(simp only [i64_w,i32_w];rfl)|(simp [*];done)|(simp [emp_bne,emp_beq];done),by repeat (first|exact Drawn0.refl _|apply Drawn0.step)⟩

/-! ### slices_Contains_string_string: function 33 -/
def slices_Contains_string_string.f (k:Nat) (l0:List ByteArray) (a1:ByteArray):Option (Bool):=(slices_Index_string_string.f k l0 a1).bind fun t222=>(some (decide (t222 ≥ 0)))
theorem slices_Contains_string_string.mono:∀ a0 a1 k,LeO (slices_Contains_string_string.f k a0 a1) (slices_Contains_string_string.f (k + 1) a0 a1):=by
 intro a0 a1 k
 unfold slices_Contains_string_string.f
 repeat' first
   | (with_reducible exact slices_Index_string_string.mono _ _ _)
   | (with_reducible exact LeO.refl _)
   | (with_reducible exact LeO.none _)
   | (with_reducible refine LeO.ite ?_ ?_)
   | (with_reducible refine LeO.bind ?_ (fun _=>?_))
   | exact slices_Index_string_string.mono _ _ _
   | exact LeO.none _
   | refine LeO.ite ?_ ?_
   | refine LeO.bind ?_ (fun _=>?_)
theorem slices_Contains_string_string.calls (k:Nat) (A0:Option Addr) (c0:Nat) (l0:List ByteArray) (a1:ByteArray) (r:Bool) (w:World) (hr0:Kd.C Kd.string w A0 l0.length l0) (hc0:l0.length ≤ c0) (h:slices_Contains_string_string.f k l0 a1 = some r) :
  Calls Try.prog 33 #[.slice A0 l0.length c0, .string a1] w fun e w'=>e = .returned (.bool r) ∧ Drawn0 w w':=by
 have HR0:=Aside0.mk hr0
 have HC0:=Aside0.mk hc0
 clear hr0 hc0
 have H:((slices_Index_string_string.f k l0 a1).bind fun t222=>(some (decide (t222 ≥ 0)))) = some r:=h
 clear h
 replace H:=Option.bind_eq_some_iff.mp H
 obtain ⟨t222,A30,H⟩:=H
 replace H:(some (decide (t222 ≥ 0))) = some r:=H
 have A3:=Aside0.mk A30
 clear A30
 obtain rfl:=Option.some.inj H
 go_enter Try.func33,Try.ntmps33
 go_wp2_with (first|((with_reducible refine gate_callee (f:=51) rfl ?_);refine goesL_ (some 7) rfl rfl Try.func51 (by kernel_rfl) rfl #[.slice A0 l0.length c0, .string a1] rfl (by (try simp only [List.map_toArray,List.map_cons,List.map_nil]);first|done|rfl|(simp only [List.length_drop,List.length_take];rfl)) ?_;(with_reducible refine (slices_Index_string_string.calls k _ _ l0 a1 t222 _ ?side1 ?side2 A3.out).mono ?_);(case side1=>repeat (first|exact HR0.out|(with_reducible refine Kd.C_alloc ?_ _)|(with_reducible refine Kd.C_drewN ?_ _)|(with_reducible refine Kd.C_drew ?_)));(case side2=>exact HC0.out);rintro e w' ⟨rfl,⟨nd,rfl⟩⟩;refine ⟨_,rfl,?_⟩))
 go_ret
 exact ⟨by first|rfl|(simp;done)|(simp only [i64_w,i32_w];done)|(simp only [i64_w,i32_w];rfl)|(simp [*];done)|(simp [emp_bne,emp_beq];done),by repeat (first|exact Drawn0.refl _|apply Drawn0.step)⟩

/-! ### impl_NoticeFor: function 12 -/
/-- Does a group speak to a name? (The numbers of functions and types are those of the seat of FnForOwn and its kin.) -/
def impl_NoticeFor.has (s:ByteArray) (g:S30):Bool:=g.f0.any fun y=>decide (s.toList = y.toList)
def impl_NoticeFor.go (s:ByteArray):List (S30) → List (S57) → Int → Option (List (S57) × Int)
 | [],rs,m=>some (rs,m)
 | g :: t,rs,m=>if impl_NoticeFor.has s g = true then (if rs.length + g.f1.length < 5864062014805 then impl_NoticeFor.go s t (rs ++ g.f1) (mx m g.f2) else none) else impl_NoticeFor.go s t rs m
def impl_NoticeFor.asked (l0:List (S30)) (a1:ByteArray):ByteArray:=if l0.any (impl_NoticeFor.has a1) = true then a1 else (⟨#[42]⟩:ByteArray)
def impl_NoticeFor.f (l0:List (S30)) (a1:ByteArray):Option ((List ByteArray) × (List (S57)) × Int) :=
 (impl_NoticeFor.go (impl_NoticeFor.asked l0 a1) l0 [] 0).bind fun r=>some ([a1],r.1,r.2)
theorem impl_NoticeFor.maker (s:ByteArray) (w:World) :
  Calls Try.prog 31 #[.string s] w fun e w'=>∃ B:Nat,e = .returned (.func (.func 32) #[] #[.pointer (some ⟨B,0,none⟩)]) ∧ w.heap.size ≤ B ∧ w'.heap[B]? = some (.cells #[.string s] 9 (0,0)) ∧ Below w.heap.size w w':=by
 go_enter Try.func31,Try.ntmps31
 go_wp2
 go_ret
 exact ⟨_,rfl,Nat.le_refl _,by (show (w.heap.push _)[w.heap.size]? = _;simp),below_alloc (Below.refl _ _) _⟩
theorem impl_NoticeFor.has_ev {l:List ByteArray} (s:ByteArray) (hl:l.length ≤ 9223372036854775807):∃ k,slices_Contains_string_string.f k l s = some (l.any fun y=>decide (s.toList = y.toList)):=by
 have loop:∀ (d:Nat) (i:Int),0 ≤ i → i ≤ l.length → (l.length:Int) - i ≤ d → ∃ k t,slices_Index_string_string.l0 k l s (l.length:Int) i = some t ∧ decide (t ≥ 0) = (l.drop i.toNat).any fun y=>decide (s.toList = y.toList):=by
  intro d
  induction d with
  | zero =>
   intro i h0 h1 hd
   refine ⟨1,-1,?_,?_⟩
   ·rw [slices_Index_string_string.l0,if_neg (by omega)]
   ·rw [List.drop_of_length_le (by omega)];rfl
  | succ d ih =>
   intro i h0 h1 hd
   by_cases hlt:i < (l.length:Int)
   rotate_left
   ·refine ⟨1,-1,?_,?_⟩
    ·rw [slices_Index_string_string.l0,if_neg (by omega)]
    ·rw [List.drop_of_length_le (by omega)];rfl
   have hi:i.toNat < l.length:=by omega
   have hr:rdOf ByteArray.empty l i = l[i.toNat]:=by
    unfold rdOf;rw [List.getD_eq_getElem?_getD,List.getElem?_eq_getElem hi];rfl
   have hw:wrap64 (i + 1) = i + 1:=by unfold wrap64;omega
   obtain ⟨k,t,hk,ht⟩:=ih (i + 1) (by omega) (by omega) (by omega)
   rw [List.drop_eq_getElem_cons hi,List.any_cons]
   by_cases e:s.toList = l[i.toNat].toList
   ·refine ⟨1,i,?_,?_⟩
    ·rw [slices_Index_string_string.l0,if_pos hlt,if_pos h0,if_pos hlt,hr,if_pos e]
    ·rw [decide_eq_true e,Bool.true_or,decide_eq_true (show i ≥ 0 by omega)]
   ·refine ⟨k + 1,t,?_,?_⟩
    ·rw [slices_Index_string_string.l0,if_pos hlt,if_pos h0,if_pos hlt,hr,if_neg e,hw];exact hk
    ·rw [decide_eq_false e,Bool.false_or,ht,show (i + 1).toNat = i.toNat + 1 by omega]
 obtain ⟨k,t,hk,ht⟩:=loop l.length 0 (by omega) (by omega) (by omega)
 refine ⟨k,?_⟩
 unfold slices_Contains_string_string.f slices_Index_string_string.f
 rw [hk,Option.bind_some,ht];rfl
theorem impl_NoticeFor.asks (s:ByteArray) (B:Nat) (x:S30) (A0 A1:Option Addr) (c0 c1:Nat) (w:World) (hB:w.heap[B]? = some (.cells #[.string s] 9 (0,0))) (hr:Kd.string.C w A0 x.f0.length x.f0) (hl:x.f0.length ≤ c0) :
  Calls Try.prog 32 #[.agg #[.slice A0 x.f0.length c0, .slice A1 x.f1.length c1, .int .i64 x.f2], .pointer (some ⟨B,0,none⟩)] w fun e w'=>e = .returned (.bool (impl_NoticeFor.has s x)) ∧ Below w.heap.size w w':=by
 have hlen:x.f0.length ≤ 9223372036854775807:=by
  have:=hr.2.1
  omega
 obtain ⟨k,hk⟩:=impl_NoticeFor.has_ev s hlen
 have hb:∀ o,Below w.heap.size w (w.alloc o):=fun o=>below_alloc (Below.refl _ _) o
 have HC:=Aside0.mk fun o=>slices_Contains_string_string.calls k A0 c0 x.f0 s _ (w.alloc o) (Kd.C_alloc hr o) hl hk
 have hB1:=Aside0.mk hB
 have hlt:=lt_of_block hB
 have hcell:∀ o,(w.alloc o).cell? ⟨B,0,none⟩ = some (.string s):=fun o=>(blk_cell (blk_alloc hB o) 0).trans rfl
 clear hB hr
 go_enter Try.func32,Try.ntmps32
 go_wp2_with (go_at_call 33;refine (HC.out _).mono ?_;rintro e w' ⟨rfl,hd⟩)
 go_ret
 exact ⟨rfl,below_step (hb _) hd.below⟩
/-- What of a group's place is read. -/
theorem impl_NoticeFor.row {w W:World} {A0:Option Addr} {l0:List S30} (hr:Kd.C k30 w A0 l0.length l0) (hb:Below w.heap.size w W) (j:Nat) (hj:j < l0.length) :
  ∃ ad A1 c1 A2 c2,A0 = some ad ∧ W.cell? (ad.add (j * 3)) = some (.slice A1 (rd_T30 l0 j).f0.length c1) ∧ W.cell? ⟨(ad.add (j * 3)).block,(ad.add (j * 3)).off + 1,none⟩ = some (.slice A2 (rd_T30 l0 j).f1.length c2) ∧ W.cell? ⟨(ad.add (j * 3)).block,(ad.add (j * 3)).off + 2,none⟩ = some (.int .i64 (rd_T30 l0 j).f2) ∧
   (rd_T30 l0 j).f0.length ≤ c1 ∧ Kd.string.C W A1 (rd_T30 l0 j).f0.length (rd_T30 l0 j).f0 ∧ (rd_T30 l0 j).f1.length ≤ c2 ∧ k57.C W A2 (rd_T30 l0 j).f1.length (rd_T30 l0 j).f1:=by
 obtain ⟨ad,A1,c1,A2,c2,e,h0,h1,h2,l1,g1,l2,g2⟩:=at_T30 hr (j:Int) (by omega) (by omega)
 rw [Int.toNat_natCast] at h0 h1 h2
 exact ⟨ad,A1,c1,A2,c2,e,(hb.cell (World.block_lt_of_cell? w _ h0)).trans h0,(hb.cell (World.block_lt_of_cell? w _ h1)).trans h1,(hb.cell (World.block_lt_of_cell? w _ h2)).trans h2,l1,Kd.C_below g1 hb,l2,Kd.C_below g2 hb⟩
theorem impl_NoticeFor.index (s:ByteArray) (B:Nat) (l0:List S30) (A0:Option Addr) (c0:Nat) (w:World) (hB:w.heap[B]? = some (.cells #[.string s] 9 (0,0))) (hr:Kd.C k30 w A0 l0.length l0) (hl:l0.length ≤ c0) :
  Calls Try.prog 52 #[.slice A0 l0.length c0, .func (.func 32) #[] #[.pointer (some ⟨B,0,none⟩)]] w fun e w'=>(∃ i:Int,e = .returned (.int .i64 i) ∧ decide (i ≥ 0) = l0.any (impl_NoticeFor.has s)) ∧ Below w.heap.size w w':=by
 have hlen:l0.length ≤ 9223372036854775807:=by
  have:=hr.2.1
  omega
 have HB:=Aside0.mk (fun (W:World) (hb:Below w.heap.size w W)=>blk_below hB hb)
 have HR:=Aside0.mk (fun (W:World) (hb:Below w.heap.size w W) j (hj:j < l0.length)=>impl_NoticeFor.row hr hb j hj)
 have HW:=Aside0.mk (Below.refl w.heap.size w)
 clear hB hr
 have hend:(l0.drop l0.length).any (impl_NoticeFor.has s) = false:=by rw [List.drop_length];rfl
 go_enter Try.func52,Try.ntmps52
 go_wp2
 go_loopg [8] l0.length (fun gg s8 wr=>∃ j:Nat,j ≤ l0.length ∧ l0.length - j ≤ gg ∧ s8 = .int .i64 j ∧ Aside0 (Below w.heap.size w wr) ∧ Aside0 (l0.any (impl_NoticeFor.has s) = (l0.drop j).any (impl_NoticeFor.has s)))
 case atStart=>exact ⟨0,Nat.zero_le _,by omega,rfl,HW,⟨by rw [List.drop_zero]⟩⟩
 case round =>
  obtain ⟨j,hj,hg,rfl,BW,A⟩:=hrel
  by_cases hlt:j < l0.length
  ·have hltz:(j:Int) < (l0.length:Int):=by omega
   obtain ⟨ad,A1,c1,A2,c2,rfl,h0,h1,h2,l1,g1,l2,g2⟩:=HR.out wr BW.out j hlt
   have hcall:=impl_NoticeFor.asks s B (rd_T30 l0 j) A1 A2 c1 c2 wr (HB.out wr BW.out) g1 l1
   have hd:(l0.drop j).any (impl_NoticeFor.has s) = (impl_NoticeFor.has s (rd_T30 l0 j) || (l0.drop (j + 1)).any (impl_NoticeFor.has s)):=by
    rw [List.drop_eq_getElem_cons hlt,List.any_cons]
    congr 2
    unfold rd_T30;rw [Int.toNat_natCast,List.getD_eq_getElem?_getD,List.getElem?_eq_getElem hlt];rfl
   have A2:=Aside0.mk (A.out.trans hd)
   clear A hd g1 g2
   generalize impl_NoticeFor.has s (rd_T30 l0 j) = b at hcall A2
   cases b with
   | true =>
    go_wp2_with fail
    refine hcall.mono ?_
    rintro e w' ⟨rfl,hb'⟩
    go_wp2
    go_ret
    exact ⟨⟨_,rfl,by rw [A2.out,Bool.true_or];exact decide_eq_true (by omega)⟩,below_step BW.out hb'⟩
   | false =>
    go_wp2_with fail
    refine hcall.mono ?_
    rintro e w' ⟨rfl,hb'⟩
    go_wp2
    go_roundg (l0.length - (j + 1))
    case measure=>omega
    case rel=>exact ⟨j + 1,by omega,by omega,by go_num,⟨below_step BW.out hb'⟩,⟨by rw [A2.out,Bool.false_or]⟩⟩
  ·have hltz:¬ (j:Int) < (l0.length:Int):=by omega
   have:j = l0.length:=by omega
   subst this
   go_wp2
   go_ret
   exact ⟨⟨_,rfl,by rw [A.out,hend];rfl⟩,BW.out⟩
theorem impl_NoticeFor.some_has (s:ByteArray) (B:Nat) (l0:List S30) (A0:Option Addr) (c0:Nat) (w:World) (hB:w.heap[B]? = some (.cells #[.string s] 9 (0,0))) (hr:Kd.C k30 w A0 l0.length l0) (hl:l0.length ≤ c0) :
  Calls Try.prog 34 #[.slice A0 l0.length c0, .func (.func 32) #[] #[.pointer (some ⟨B,0,none⟩)]] w fun e w'=>e = .returned (.bool (l0.any (impl_NoticeFor.has s))) ∧ Below w.heap.size w w':=by
 have hcall:=impl_NoticeFor.index s B l0 A0 c0 w hB hr hl
 clear hB hr
 go_enter Try.func34,Try.ntmps34
 go_wp2_with fail
 refine hcall.mono ?_
 rintro e w' ⟨⟨i,rfl,hi⟩,hb'⟩
 have HI:=Aside0.mk hi
 clear hi
 go_wp2
 go_ret
 exact ⟨by rw [← HI.out];rfl,hb'⟩
theorem impl_NoticeFor.put3 {w:World} {g:Nat} {t:TypeId} {a b c:Value} (h:w.heap[g]? = some (.cells #[a,b,c] t (0,0))) (a' b' c':Value):(((w.setCell ⟨g,0,none⟩ a').setCell ⟨g,1,none⟩ b').setCell ⟨g,2,none⟩ c').heap[g]? = some (.cells #[a',b',c'] t (0,0)) :=
 blk_put (blk_put (blk_put h 0 a' rfl) 1 b' rfl) 2 c' rfl
theorem impl_NoticeFor.far3 {w:World} {g g':Nat} {t:TypeId} {cs:Array Value} (h:w.heap[g]? = some (.cells cs t (0,0))) (hp:g ≠ g') (a b c:Value):(((w.setCell ⟨g',0,none⟩ a).setCell ⟨g',1,none⟩ b).setCell ⟨g',2,none⟩ c).heap[g]? = some (.cells cs t (0,0)) :=
 blk_far (blk_far (blk_far h hp a) hp b) hp c
theorem impl_NoticeFor.row3 {α:Type} {d:Kd α} {e base t g:Nat} {ok:Nat → Prop} {v:Value} {xs:List α} {w:World} {cells:Array Value} (h:d.R e w base ok v xs) (hb:w.heap[g]? = some (.cells cells t (0,0))) (ht:∀ q,q ∈ e :: d.E → q ≠ t) (a b c:Value) :
  d.R e (((w.setCell ⟨g,0,none⟩ a).setCell ⟨g,1,none⟩ b).setCell ⟨g,2,none⟩ c) base ok v xs :=
 Kd.R_mono (Kd.R_far (p:=⟨g,2,none⟩) (Kd.R_far (p:=⟨g,1,none⟩) (Kd.R_far (p:=⟨g,0,none⟩) (Kd.R_types h hb ht) (fun _ hk=>hk.2) a) (fun _ hk=>hk.2) b) (fun _ hk=>hk.2) c) (fun _ h_=>h_.1)
theorem impl_NoticeFor.below3 {w W:World} {g:Nat} (h:Below w.heap.size w W) (hg:w.heap.size ≤ g) (a b c:Value):Below w.heap.size w (((W.setCell ⟨g,0,none⟩ a).setCell ⟨g,1,none⟩ b).setCell ⟨g,2,none⟩ c) :=
 below_set (below_set (below_set h hg) hg) hg
theorem impl_NoticeFor.calls (A0:Option Addr) (c0:Nat) (l0:List (S30)) (a1:ByteArray) (r1:List ByteArray) (r2:List (S57)) (r3:Int) (w:World) (hr0:Kd.C k30 w A0 l0.length l0) (hc0:l0.length ≤ c0) (h:impl_NoticeFor.f l0 a1 = some (r1,r2,r3)) :
  Calls Try.prog 12 #[.slice A0 l0.length c0, .string a1] w fun e w'=>∃ v0_ v1_:Value,e = .returned (.agg #[v0_,v1_, .int .i64 r3]) ∧ Kd.R Kd.string 9 w' w.heap.size (fun _=>True) v0_ r1 ∧ Kd.R k57 57 w' w.heap.size (fun _=>True) v1_ r2 ∧ Below w.heap.size w w':=by
 obtain ⟨q,hgo,e⟩:=Option.bind_eq_some_iff.mp h
 simp only [Option.some.injEq,Prod.mk.injEq] at e
 obtain ⟨rfl,rfl,rfl⟩:=e
 obtain ⟨r2,r3⟩:=q
 clear h
 have HG:=Aside0.mk hgo
 have hlen:l0.length ≤ 9223372036854775807:=by
  have:=hr0.2.1
  omega
 have HC:=Aside0.mk hr0
 have HB:=Aside0.mk (Below.refl w.heap.size w)
 clear hgo hr0
 go_enter Try.func12,Try.ntmps12
 go_wp2_with ((with_reducible refine gate_dst (N:=4) rfl ?_);refine box_event ?hg (N:=4) ?hd (cs:=#[.slice none 0 0, .slice none 0 0, .int .i64 0]) (t:=30) ?hr ?_;(case hd=>rfl);(case hg=>rfl);(case hr=>go_simp <;> rfl);intro g4 hg w1 hbox hb;have HB1:=Aside0.mk (below_step HB.out hb);have K4:=Aside0.mk hbox;have G4:=Aside0.mk (show w.heap.size ≤ g4 by rw [hg];exact Nat.le_refl _);clear HB hb hbox hg)
 refine (impl_NoticeFor.maker a1 _).mono ?_
 rintro e w2 ⟨B,rfl,hBg,hBk,hb⟩
 have HB2:=Aside0.mk (below_step HB1.out hb)
 have K4b:=Aside0.mk (blk_below K4.out hb)
 have KB:=Aside0.mk hBk
 clear K4 HB1 hb hBk hBg
 go_wp2_with fail
 refine (impl_NoticeFor.some_has a1 B l0 A0 c0 w2 KB.out (Kd.C_below HC.out HB2.out) hc0).mono ?_
 rintro e w3 ⟨rfl,hb⟩
 have HB3:=Aside0.mk (below_step HB2.out hb)
 have K4:=Aside0.mk (blk_below K4b.out hb)
 clear K4b HB2 hb KB
 have hG:impl_NoticeFor.go (if l0.any (impl_NoticeFor.has a1) = true then a1 else (⟨#[42]⟩:ByteArray)) l0 [] 0 = some (r2,r3):=HG.out
 generalize l0.any (impl_NoticeFor.has a1) = b at hG ⊢
 have HG2:=Aside0.mk hG
 clear hG HG
 cases b with
 | true =>
  have HG:=Aside0.mk (show impl_NoticeFor.go a1 l0 [] 0 = some (r2,r3) from HG2.out)
  clear HG2
  go_wp2_with (first|((with_reducible refine gate_dst (N:=18) rfl ?_);refine Kd.R_lit Kd.string _ 9 ?hg (N:=18) ?hd (xs:=([a1]:List ByteArray)) (inner:=[.string a1]) (ok:=fun _=>True) (okp:=fun _=>True) ?hr ?hp (fun _ hk=>hk) trivial (Below.refl _ _) (Nat.le_refl _) (by simp) ?_;(case hd=>rfl);(case hg=>rfl);(case hr=>go_simp <;> rfl);(case hp=>exact (Reps.one (show Kd.M Kd.string _ _ _ a1 [.string a1] from rfl) (Reps.none _ _)));intro v5 w5 ho hb hg_ hnew_;clear hg_ hnew_;have HO:=Aside0.mk (Kd.R_lower ho (below_size HB3.out));have K4':=Aside0.mk (blk_below K4.out hb);have HB4:=Aside0.mk (below_step HB3.out hb);clear ho hb K4 HB3;obtain ⟨Ao,co,eo⟩:=Kd.R_slice HO.out;subst eo)|((with_reducible refine gate_dst (N:=7) rfl ?_);refine box_event ?hg (N:=7) ?hd (cs:=#[.slice none 0 0, .slice none 0 0, .int .i64 0]) (t:=30) ?hr ?_;(case hd=>rfl);(case hg=>rfl);(case hr=>go_simp <;> rfl);intro g7 hg w6 hbox hb;have HB5:=Aside0.mk (below_step HB4.out hb);have K4:=Aside0.mk (blk_below K4'.out hb);have HO5:=Aside0.mk (Kd.R_below HO.out hb);have K7:=Aside0.mk hbox;have G7:=Aside0.mk (show w.heap.size ≤ g7 by rw [hg];exact below_size HB4.out);have N74:=Aside0.mk (show g7 ≠ g4 by rw [hg];exact Nat.ne_of_gt (blk_lt K4'.out));clear HB4 K4' HO hb hbox hg;have hcz0:w6.cell? ⟨g7,0,none⟩ = some (.slice none 0 0):=(blk_cell K7.out 0).trans rfl;have hcz1:w6.cell? ⟨g7,1,none⟩ = some (.slice none 0 0):=(blk_cell K7.out 1).trans rfl;have hcz2:w6.cell? ⟨g7,2,none⟩ = some (.int .i64 0):=(blk_cell K7.out 2).trans rfl;have hfz0:=blk_frozen K7.out 0;have hfz1:=blk_frozen K7.out 1;have hfz2:=blk_frozen K7.out 2))
  go_loopg [22] l0.length (fun gg v22 wr=>∃ (j:Nat) (rs:List S57) (m:Int) (u:Value),j ≤ l0.length ∧ l0.length - j ≤ gg ∧ v22 = .int .i64 j ∧ Aside0 (impl_NoticeFor.go a1 (l0.drop j) rs m = some (r2,r3)) ∧ Aside0 (Kd.R Kd.string 9 wr w.heap.size (fun _=>True) (.slice Ao [a1].length co) [a1]) ∧ Aside0 (Kd.R k57 57 wr w.heap.size (fun _=>True) u rs) ∧ Aside0 (wr.heap[g4]? = some (.cells #[.slice none 0 0, .slice none 0 0, .int .i64 0] 30 (0,0))) ∧ Aside0 (wr.heap[g7]? = some (.cells #[.slice Ao [a1].length co,u, .int .i64 m] 30 (0,0))) ∧ Aside0 (Below w.heap.size w wr))
  case atStart=>exact ⟨0,[],0, .slice none 0 0,Nat.zero_le _,by omega,rfl,⟨by rw [List.drop_zero];exact HG.out⟩,⟨impl_NoticeFor.row3 HO5.out K7.out (by decide) _ _ _⟩,⟨Kd.R_nil _ _ _ _ _⟩,⟨impl_NoticeFor.far3 K4.out N74.out.symm _ _ _⟩,⟨impl_NoticeFor.put3 K7.out _ _ _⟩,⟨impl_NoticeFor.below3 HB5.out G7.out _ _ _⟩⟩
  case round =>
   clear HG HO5 K4 K7 HB5 hcz0 hcz1 hcz2 hfz0 hfz1 hfz2
   obtain ⟨j,rs,m,u,hj,hg,rfl,HG,HO,HU,K4,K7,BW⟩:=hrel
   by_cases hlt:j < l0.length
   ·have hltz:(j:Int) < (l0.length:Int):=by omega
    obtain ⟨ad,A1,c1,A2,c2,rfl,h0w,h1w,h2w,l1,g1,l2,g2⟩:=impl_NoticeFor.row HC.out (Below.refl _ _) j hlt
    have h0:=(BW.out.cell (World.block_lt_of_cell? w _ h0w)).trans h0w
    have h1:=(BW.out.cell (World.block_lt_of_cell? w _ h1w)).trans h1w
    have h2:=(BW.out.cell (World.block_lt_of_cell? w _ h2w)).trans h2w
    clear h0w h1w h2w
    have HL1:=Aside0.mk l1
    have HL2:=Aside0.mk l2
    have HC1:=Aside0.mk g1
    have HC2:=Aside0.mk g2
    clear l1 l2 g1 g2
    go_wp2_with ((with_reducible refine gate_dst (N:=9) rfl ?_);refine box_event ?hg (N:=9) ?hd (cs:=#[.slice none 0 0, .slice none 0 0, .int .i64 0]) (t:=30) ?hr ?_;(case hd=>rfl);(case hg=>rfl);(case hr=>go_simp <;> rfl);intro g9 hg9 w7 hbox hb;have HB6:=Aside0.mk (below_step BW.out hb);have K4':=Aside0.mk (blk_below K4.out hb);have K7':=Aside0.mk (blk_below K7.out hb);have HO6:=Aside0.mk (Kd.R_below HO.out hb);have HU6:=Aside0.mk (Kd.R_below HU.out hb);have K9:=Aside0.mk hbox;have G9:=Aside0.mk (show w.heap.size ≤ g9 by rw [hg9];exact below_size BW.out);have N94:=Aside0.mk (show g9 ≠ g4 by rw [hg9];exact Nat.ne_of_gt (blk_lt K4.out));have N97:=Aside0.mk (show g9 ≠ g7 by rw [hg9];exact Nat.ne_of_gt (blk_lt K7.out));clear BW K4 K7 HO HU hb hbox hg9;have hcz0:w7.cell? ⟨g9,0,none⟩ = some (.slice none 0 0):=(blk_cell K9.out 0).trans rfl;have hcz1:w7.cell? ⟨g9,1,none⟩ = some (.slice none 0 0):=(blk_cell K9.out 1).trans rfl;have hcz2:w7.cell? ⟨g9,2,none⟩ = some (.int .i64 0):=(blk_cell K9.out 2).trans rfl;have hfz0:=blk_frozen K9.out 0;have hfz1:=blk_frozen K9.out 1;have hfz2:=blk_frozen K9.out 2)
    clear hcz0 hcz1 hcz2 hfz0 hfz1 hfz2 h0 h1 h2
    have BW:=Aside0.mk (impl_NoticeFor.below3 HB6.out G9.out (.slice A1 (rd_T30 l0 j).f0.length c1) (.slice A2 (rd_T30 l0 j).f1.length c2) (.int .i64 (rd_T30 l0 j).f2))
    have K4:=Aside0.mk (impl_NoticeFor.far3 K4'.out N94.out.symm (.slice A1 (rd_T30 l0 j).f0.length c1) (.slice A2 (rd_T30 l0 j).f1.length c2) (.int .i64 (rd_T30 l0 j).f2))
    have K7:=Aside0.mk (impl_NoticeFor.far3 K7'.out N97.out.symm (.slice A1 (rd_T30 l0 j).f0.length c1) (.slice A2 (rd_T30 l0 j).f1.length c2) (.int .i64 (rd_T30 l0 j).f2))
    have HO:=Aside0.mk (impl_NoticeFor.row3 HO6.out K9.out (by decide) (.slice A1 (rd_T30 l0 j).f0.length c1) (.slice A2 (rd_T30 l0 j).f1.length c2) (.int .i64 (rd_T30 l0 j).f2))
    have HU:=Aside0.mk (impl_NoticeFor.row3 HU6.out K9.out (by decide) (.slice A1 (rd_T30 l0 j).f0.length c1) (.slice A2 (rd_T30 l0 j).f1.length c2) (.int .i64 (rd_T30 l0 j).f2))
    have K9':=Aside0.mk (impl_NoticeFor.put3 K9.out (.slice A1 (rd_T30 l0 j).f0.length c1) (.slice A2 (rd_T30 l0 j).f1.length c2) (.int .i64 (rd_T30 l0 j).f2))
    clear HB6 K4' K7' HO6 HU6 K9
    generalize (((w7.setCell ⟨g9,0,none⟩ (.slice A1 (rd_T30 l0 j).f0.length c1)).setCell ⟨g9,1,none⟩ (.slice A2 (rd_T30 l0 j).f1.length c2)).setCell ⟨g9,2,none⟩ (.int .i64 (rd_T30 l0 j).f2)) = w8 at BW K4 K7 HO HU K9' ⊢
    have hcz0:w8.cell? ⟨g9,0,none⟩ = some (.slice A1 (rd_T30 l0 j).f0.length c1):=(blk_cell K9'.out 0).trans rfl
    have hcz1:w8.cell? ⟨g9,1,none⟩ = some (.slice A2 (rd_T30 l0 j).f1.length c2):=(blk_cell K9'.out 1).trans rfl
    have hcz2:w8.cell? ⟨g9,2,none⟩ = some (.int .i64 (rd_T30 l0 j).f2):=(blk_cell K9'.out 2).trans rfl
    go_region_with (first|(go_at_call 31;refine (impl_NoticeFor.maker a1 _).mono ?_;rintro e w9 ⟨B2,rfl,hBg,hBk,hb⟩;have KB2:=Aside0.mk hBk;have HD1:=Aside0.mk hb;have BW9:=Aside0.mk (below_step (below_drew1 BW.out) hb);have hd0:w9.cell? ⟨g9,0,none⟩ = some (.slice A1 (rd_T30 l0 j).f0.length c1):=(blk_cell (blk_below (blk_drew K9'.out) hb) 0).trans rfl;have hd1:w9.cell? ⟨g9,1,none⟩ = some (.slice A2 (rd_T30 l0 j).f1.length c2):=(blk_cell (blk_below (blk_drew K9'.out) hb) 1).trans rfl;have hd2:w9.cell? ⟨g9,2,none⟩ = some (.int .i64 (rd_T30 l0 j).f2):=(blk_cell (blk_below (blk_drew K9'.out) hb) 2).trans rfl;clear hBg hBk hb)|(go_at_call 32;refine (impl_NoticeFor.asks a1 B2 (rd_T30 l0 j) A1 A2 c1 c2 w9 KB2.out (Kd.C_below HC1.out BW9.out) HL1.out).mono ?_;rintro e w10 ⟨rfl,hb2⟩;have HD2:=Aside0.mk (below_step HD1.out hb2);clear hb2))
    all_goals (
     have BW':=Aside0.mk (below_step (below_drew1 BW.out) HD2.out)
     have HO':=Aside0.mk (Kd.R_below (Kd.R_drew HO.out) HD2.out)
     have HU':=Aside0.mk (Kd.R_below (Kd.R_drew HU.out) HD2.out)
     have K4':=Aside0.mk (blk_below (blk_drew K4.out) HD2.out)
     have K7':=Aside0.mk (blk_below (blk_drew K7.out) HD2.out)
     have K9:=Aside0.mk (blk_below (blk_drew K9'.out) HD2.out)
     have hG:=HG.out
     rw [List.drop_eq_getElem_cons hlt,show l0[j] = rd_T30 l0 j by unfold rd_T30;rw [Int.toNat_natCast,List.getD_eq_getElem?_getD,List.getElem?_eq_getElem hlt];rfl] at hG
     simp only [impl_NoticeFor.go] at hG
     clear BW HO HU K4 K7 K9' hcz0 hcz1 hcz2 hd0 hd1 hd2 HD1 HD2 KB2 BW9 HG
     generalize impl_NoticeFor.has a1 (rd_T30 l0 j) = b at hG ⊢
     cases b with
     | false =>
      have HG:=Aside0.mk (show impl_NoticeFor.go a1 (l0.drop (j + 1)) rs m = some (r2,r3) by rw [if_neg Bool.false_ne_true] at hG;exact hG)
      clear hG
      go_wp2
      go_roundg (l0.length - (j + 1))
      case measure=>omega
      case rel=>exact ⟨j + 1,rs,m,u,by omega,by omega,by go_num,HG,HO',HU',K4',K7',BW'⟩
     | true =>
      rw [if_pos rfl] at hG
      by_cases hlim:rs.length + (rd_T30 l0 j).f1.length < 5864062014805
      rotate_left
      ·rw [if_neg hlim] at hG;cases hG
      rw [if_pos hlim] at hG
      have e0:mx m (rd_T30 l0 j).f2 = if m < (rd_T30 l0 j).f2 then (rd_T30 l0 j).f2 else m:=rfl
      rcases (show m < (rd_T30 l0 j).f2 ∨ m ≥ (rd_T30 l0 j).f2 by omega) with hm|hm
      ·rw [e0,if_pos hm] at hG
       clear e0
       have HG:=Aside0.mk hG
       have LM:=Aside0.mk hlim
       clear hG hlim
       have hc71:w10.cell? ⟨g7,1,none⟩ = some u:=(blk_cell K7'.out 1).trans rfl
       have hc91:w10.cell? ⟨g9,1,none⟩ = some (.slice A2 (rd_T30 l0 j).f1.length c2):=(blk_cell K9.out 1).trans rfl
       go_wp2_with ((with_reducible refine gate_builtin (b:=.append) (xs:=#[.tmp 32, .tmp 34]) rfl ?_);at_builtin;refine Kd.R_append_rows k57 (w0:=w) w.heap.size rfl (.tmp 32) (.tmp 34) 28 57 (.agg #[(.bool false),(.string ⟨#[]⟩)]) 24 rfl Try.underlying28 info57 rfl (by decide) (by omega) u rs ((rd_T30 l0 j).f1) _ _ _ (fun _=>True) (fun _=>False) rfl rfl ?aO ?aR (fun _ _ h=>h) (fun _ h=>h.elim) ?aF ?aB ?aS ?aL ?_;(case aR=>exact Kd.C_below HC2.out BW'.out);(case aB=>exact BW'.out);(case aF=>exact (fun _ _=>trivial));(case aO=>exact HU'.out);(case aS=>exact below_size BW'.out);(case aL=>have:=LM.out;omega);intro v11 w11 ho hb hg hat;have HO2:=Aside0.mk (Kd.R_over' HO'.out (Kd.R_typed HU'.out) (by decide) hg);have K42:=Aside0.mk (blk_grown (g:=g4) (o:=.cells #[.slice none 0 0, .slice none 0 0, .int .i64 0] 30 (0,0)) K4'.out hg (Kd.R_ne HU'.out K4'.out (by decide)));have K72:=Aside0.mk (blk_grown (g:=g7) (o:=.cells #[.slice Ao [a1].length co,u, .int .i64 m] 30 (0,0)) K7'.out hg (Kd.R_ne HU'.out K7'.out (by decide)));have K92:=Aside0.mk (blk_grown (g:=g9) (o:=.cells #[.slice A1 (rd_T30 l0 j).f0.length c1, .slice A2 (rd_T30 l0 j).f1.length c2, .int .i64 (rd_T30 l0 j).f2] 30 (0,0)) K9.out hg (Kd.R_ne HU'.out K9.out (by decide)));have BW2:=Aside0.mk hb;have HU2:=Aside0.mk ho;clear HO' K4' K7' K9 BW' HU' ho hb hg hat hc71 hc91;obtain ⟨Au,cu,eu⟩:=Kd.R_slice HU2.out;subst eu;have hc71:w11.cell? ⟨g7,1,none⟩ = some u:=(blk_cell K72.out 1).trans rfl;have hf71:=blk_frozen K72.out 1;have hc72:w11.cell? ⟨g7,2,none⟩ = some (.int .i64 m):=(blk_cell K72.out 2).trans rfl;have hf72:=blk_frozen K72.out 2;have hc92:w11.cell? ⟨g9,2,none⟩ = some (.int .i64 (rd_T30 l0 j).f2):=(blk_cell K92.out 2).trans rfl;have hn97:=N97.out;have hn79:=N97.out.symm)
       have HU3:=Aside0.mk (show Kd.R k57 57 w11 w.heap.size (fun _=>True) (.slice Au (rs.length + (rd_T30 l0 j).f1.length) cu) (rs ++ (rd_T30 l0 j).f1) by rw [← List.length_append];exact HU2.out)
       clear HU2
       go_roundg (l0.length - (j + 1))
       case measure=>omega
       case rel=>exact ⟨j + 1,rs ++ (rd_T30 l0 j).f1,_, .slice Au (rs.length + (rd_T30 l0 j).f1.length) cu,by omega,by omega,by go_num,HG,⟨Kd.R_mono (Kd.R_far (p:=⟨g7,2,none⟩) (Kd.R_far (p:=⟨g7,1,none⟩) (Kd.R_types HO2.out K72.out (by decide)) (fun _ hk=>hk.2) _) (fun _ hk=>hk.2) _) (fun _ h_=>h_.1)⟩,⟨Kd.R_mono (Kd.R_far (p:=⟨g7,2,none⟩) (Kd.R_far (p:=⟨g7,1,none⟩) (Kd.R_types HU3.out K72.out (by decide)) (fun _ hk=>hk.2) _) (fun _ hk=>hk.2) _) (fun _ h_=>h_.1)⟩,⟨blk_far (blk_far K42.out N74.out.symm _) N74.out.symm _⟩,⟨blk_put (blk_put K72.out 1 _ rfl) 2 _ rfl⟩,⟨below_set (below_set BW2.out G7.out) G7.out⟩⟩
      ·rw [e0,if_neg (by omega)] at hG
       clear e0
       have HG:=Aside0.mk hG
       have LM:=Aside0.mk hlim
       clear hG hlim
       have hc71:w10.cell? ⟨g7,1,none⟩ = some u:=(blk_cell K7'.out 1).trans rfl
       have hc91:w10.cell? ⟨g9,1,none⟩ = some (.slice A2 (rd_T30 l0 j).f1.length c2):=(blk_cell K9.out 1).trans rfl
       go_wp2_with ((with_reducible refine gate_builtin (b:=.append) (xs:=#[.tmp 32, .tmp 34]) rfl ?_);at_builtin;refine Kd.R_append_rows k57 (w0:=w) w.heap.size rfl (.tmp 32) (.tmp 34) 28 57 (.agg #[(.bool false),(.string ⟨#[]⟩)]) 24 rfl Try.underlying28 info57 rfl (by decide) (by omega) u rs ((rd_T30 l0 j).f1) _ _ _ (fun _=>True) (fun _=>False) rfl rfl ?aO ?aR (fun _ _ h=>h) (fun _ h=>h.elim) ?aF ?aB ?aS ?aL ?_;(case aR=>exact Kd.C_below HC2.out BW'.out);(case aB=>exact BW'.out);(case aF=>exact (fun _ _=>trivial));(case aO=>exact HU'.out);(case aS=>exact below_size BW'.out);(case aL=>have:=LM.out;omega);intro v11 w11 ho hb hg hat;have HO2:=Aside0.mk (Kd.R_over' HO'.out (Kd.R_typed HU'.out) (by decide) hg);have K42:=Aside0.mk (blk_grown (g:=g4) (o:=.cells #[.slice none 0 0, .slice none 0 0, .int .i64 0] 30 (0,0)) K4'.out hg (Kd.R_ne HU'.out K4'.out (by decide)));have K72:=Aside0.mk (blk_grown (g:=g7) (o:=.cells #[.slice Ao [a1].length co,u, .int .i64 m] 30 (0,0)) K7'.out hg (Kd.R_ne HU'.out K7'.out (by decide)));have K92:=Aside0.mk (blk_grown (g:=g9) (o:=.cells #[.slice A1 (rd_T30 l0 j).f0.length c1, .slice A2 (rd_T30 l0 j).f1.length c2, .int .i64 (rd_T30 l0 j).f2] 30 (0,0)) K9.out hg (Kd.R_ne HU'.out K9.out (by decide)));have BW2:=Aside0.mk hb;have HU2:=Aside0.mk ho;clear HO' K4' K7' K9 BW' HU' ho hb hg hat hc71 hc91;obtain ⟨Au,cu,eu⟩:=Kd.R_slice HU2.out;subst eu;have hc71:w11.cell? ⟨g7,1,none⟩ = some u:=(blk_cell K72.out 1).trans rfl;have hf71:=blk_frozen K72.out 1;have hc72:w11.cell? ⟨g7,2,none⟩ = some (.int .i64 m):=(blk_cell K72.out 2).trans rfl;have hf72:=blk_frozen K72.out 2;have hc92:w11.cell? ⟨g9,2,none⟩ = some (.int .i64 (rd_T30 l0 j).f2):=(blk_cell K92.out 2).trans rfl;have hn97:=N97.out;have hn79:=N97.out.symm)
       have HU3:=Aside0.mk (show Kd.R k57 57 w11 w.heap.size (fun _=>True) (.slice Au (rs.length + (rd_T30 l0 j).f1.length) cu) (rs ++ (rd_T30 l0 j).f1) by rw [← List.length_append];exact HU2.out)
       clear HU2
       go_roundg (l0.length - (j + 1))
       case measure=>omega
       case rel=>exact ⟨j + 1,rs ++ (rd_T30 l0 j).f1,_, .slice Au (rs.length + (rd_T30 l0 j).f1.length) cu,by omega,by omega,by go_num,HG,⟨Kd.R_mono (Kd.R_far (p:=⟨g7,2,none⟩) (Kd.R_far (p:=⟨g7,1,none⟩) (Kd.R_types HO2.out K72.out (by decide)) (fun _ hk=>hk.2) _) (fun _ hk=>hk.2) _) (fun _ h_=>h_.1)⟩,⟨Kd.R_mono (Kd.R_far (p:=⟨g7,2,none⟩) (Kd.R_far (p:=⟨g7,1,none⟩) (Kd.R_types HU3.out K72.out (by decide)) (fun _ hk=>hk.2) _) (fun _ hk=>hk.2) _) (fun _ h_=>h_.1)⟩,⟨blk_far (blk_far K42.out N74.out.symm _) N74.out.symm _⟩,⟨blk_put (blk_put K72.out 1 _ rfl) 2 _ rfl⟩,⟨below_set (below_set BW2.out G7.out) G7.out⟩⟩)
   ·have hltz:¬ (j:Int) < (l0.length:Int):=by omega
    obtain rfl:j = l0.length:=by omega
    have hG:=HG.out
    rw [List.drop_length] at hG
    simp only [impl_NoticeFor.go,Option.some.injEq,Prod.mk.injEq] at hG
    obtain ⟨rfl,rfl⟩:=hG
    clear HG
    obtain ⟨Au,cu,eu⟩:=Kd.R_slice HU.out
    subst eu
    have hc70:wr.cell? ⟨g7,0,none⟩ = some (.slice Ao [a1].length co):=(blk_cell K7.out 0).trans rfl
    have hc71:wr.cell? ⟨g7,1,none⟩ = some (.slice Au rs.length cu):=(blk_cell K7.out 1).trans rfl
    have hc72:wr.cell? ⟨g7,2,none⟩ = some (.int .i64 m):=(blk_cell K7.out 2).trans rfl
    have hc40:wr.cell? ⟨g4,0,none⟩ = some (.slice none 0 0):=(blk_cell K4.out 0).trans rfl
    have hc41:wr.cell? ⟨g4,1,none⟩ = some (.slice none 0 0):=(blk_cell K4.out 1).trans rfl
    have hc42:wr.cell? ⟨g4,2,none⟩ = some (.int .i64 0):=(blk_cell K4.out 2).trans rfl
    have hf40:=blk_frozen K4.out 0
    have hf41:=blk_frozen K4.out 1
    have hf42:=blk_frozen K4.out 2
    have hn74:=N74.out
    have hn47:=N74.out.symm
    go_wp2
    refine bodyPost_ret (results_cell_row rfl _ _ g4 30 #[.slice Ao [a1].length co, .slice Au rs.length cu, .int .i64 m] (0,0) _ rfl (impl_NoticeFor.put3 K4.out _ _ _) Try.underlying30 rfl (by kernel_rfl)) rfl ?_
    exact ⟨_,_,rfl,impl_NoticeFor.row3 HO.out K4.out (by decide) _ _ _,impl_NoticeFor.row3 HU.out K4.out (by decide) _ _ _,impl_NoticeFor.below3 BW.out G4.out _ _ _⟩
 | false =>
  have HG:=Aside0.mk (show impl_NoticeFor.go (⟨#[42]⟩:ByteArray) l0 [] 0 = some (r2,r3) from HG2.out)
  clear HG2
  go_wp2_with (first|((with_reducible refine gate_dst (N:=18) rfl ?_);refine Kd.R_lit Kd.string _ 9 ?hg (N:=18) ?hd (xs:=([a1]:List ByteArray)) (inner:=[.string a1]) (ok:=fun _=>True) (okp:=fun _=>True) ?hr ?hp (fun _ hk=>hk) trivial (Below.refl _ _) (Nat.le_refl _) (by simp) ?_;(case hd=>rfl);(case hg=>rfl);(case hr=>go_simp <;> rfl);(case hp=>exact (Reps.one (show Kd.M Kd.string _ _ _ a1 [.string a1] from rfl) (Reps.none _ _)));intro v5 w5 ho hb hg_ hnew_;clear hg_ hnew_;have HO:=Aside0.mk (Kd.R_lower ho (below_size HB3.out));have K4':=Aside0.mk (blk_below K4.out hb);have HB4:=Aside0.mk (below_step HB3.out hb);clear ho hb K4 HB3;obtain ⟨Ao,co,eo⟩:=Kd.R_slice HO.out;subst eo)|((with_reducible refine gate_dst (N:=7) rfl ?_);refine box_event ?hg (N:=7) ?hd (cs:=#[.slice none 0 0, .slice none 0 0, .int .i64 0]) (t:=30) ?hr ?_;(case hd=>rfl);(case hg=>rfl);(case hr=>go_simp <;> rfl);intro g7 hg w6 hbox hb;have HB5:=Aside0.mk (below_step HB4.out hb);have K4:=Aside0.mk (blk_below K4'.out hb);have HO5:=Aside0.mk (Kd.R_below HO.out hb);have K7:=Aside0.mk hbox;have G7:=Aside0.mk (show w.heap.size ≤ g7 by rw [hg];exact below_size HB4.out);have N74:=Aside0.mk (show g7 ≠ g4 by rw [hg];exact Nat.ne_of_gt (blk_lt K4'.out));clear HB4 K4' HO hb hbox hg;have hcz0:w6.cell? ⟨g7,0,none⟩ = some (.slice none 0 0):=(blk_cell K7.out 0).trans rfl;have hcz1:w6.cell? ⟨g7,1,none⟩ = some (.slice none 0 0):=(blk_cell K7.out 1).trans rfl;have hcz2:w6.cell? ⟨g7,2,none⟩ = some (.int .i64 0):=(blk_cell K7.out 2).trans rfl;have hfz0:=blk_frozen K7.out 0;have hfz1:=blk_frozen K7.out 1;have hfz2:=blk_frozen K7.out 2))
  go_loopg [22] l0.length (fun gg v22 wr=>∃ (j:Nat) (rs:List S57) (m:Int) (u:Value),j ≤ l0.length ∧ l0.length - j ≤ gg ∧ v22 = .int .i64 j ∧ Aside0 (impl_NoticeFor.go (⟨#[42]⟩:ByteArray) (l0.drop j) rs m = some (r2,r3)) ∧ Aside0 (Kd.R Kd.string 9 wr w.heap.size (fun _=>True) (.slice Ao [a1].length co) [a1]) ∧ Aside0 (Kd.R k57 57 wr w.heap.size (fun _=>True) u rs) ∧ Aside0 (wr.heap[g4]? = some (.cells #[.slice none 0 0, .slice none 0 0, .int .i64 0] 30 (0,0))) ∧ Aside0 (wr.heap[g7]? = some (.cells #[.slice Ao [a1].length co,u, .int .i64 m] 30 (0,0))) ∧ Aside0 (Below w.heap.size w wr))
  case atStart=>exact ⟨0,[],0, .slice none 0 0,Nat.zero_le _,by omega,rfl,⟨by rw [List.drop_zero];exact HG.out⟩,⟨impl_NoticeFor.row3 HO5.out K7.out (by decide) _ _ _⟩,⟨Kd.R_nil _ _ _ _ _⟩,⟨impl_NoticeFor.far3 K4.out N74.out.symm _ _ _⟩,⟨impl_NoticeFor.put3 K7.out _ _ _⟩,⟨impl_NoticeFor.below3 HB5.out G7.out _ _ _⟩⟩
  case round =>
   clear HG HO5 K4 K7 HB5 hcz0 hcz1 hcz2 hfz0 hfz1 hfz2
   obtain ⟨j,rs,m,u,hj,hg,rfl,HG,HO,HU,K4,K7,BW⟩:=hrel
   by_cases hlt:j < l0.length
   ·have hltz:(j:Int) < (l0.length:Int):=by omega
    obtain ⟨ad,A1,c1,A2,c2,rfl,h0w,h1w,h2w,l1,g1,l2,g2⟩:=impl_NoticeFor.row HC.out (Below.refl _ _) j hlt
    have h0:=(BW.out.cell (World.block_lt_of_cell? w _ h0w)).trans h0w
    have h1:=(BW.out.cell (World.block_lt_of_cell? w _ h1w)).trans h1w
    have h2:=(BW.out.cell (World.block_lt_of_cell? w _ h2w)).trans h2w
    clear h0w h1w h2w
    have HL1:=Aside0.mk l1
    have HL2:=Aside0.mk l2
    have HC1:=Aside0.mk g1
    have HC2:=Aside0.mk g2
    clear l1 l2 g1 g2
    go_wp2_with ((with_reducible refine gate_dst (N:=9) rfl ?_);refine box_event ?hg (N:=9) ?hd (cs:=#[.slice none 0 0, .slice none 0 0, .int .i64 0]) (t:=30) ?hr ?_;(case hd=>rfl);(case hg=>rfl);(case hr=>go_simp <;> rfl);intro g9 hg9 w7 hbox hb;have HB6:=Aside0.mk (below_step BW.out hb);have K4':=Aside0.mk (blk_below K4.out hb);have K7':=Aside0.mk (blk_below K7.out hb);have HO6:=Aside0.mk (Kd.R_below HO.out hb);have HU6:=Aside0.mk (Kd.R_below HU.out hb);have K9:=Aside0.mk hbox;have G9:=Aside0.mk (show w.heap.size ≤ g9 by rw [hg9];exact below_size BW.out);have N94:=Aside0.mk (show g9 ≠ g4 by rw [hg9];exact Nat.ne_of_gt (blk_lt K4.out));have N97:=Aside0.mk (show g9 ≠ g7 by rw [hg9];exact Nat.ne_of_gt (blk_lt K7.out));clear BW K4 K7 HO HU hb hbox hg9;have hcz0:w7.cell? ⟨g9,0,none⟩ = some (.slice none 0 0):=(blk_cell K9.out 0).trans rfl;have hcz1:w7.cell? ⟨g9,1,none⟩ = some (.slice none 0 0):=(blk_cell K9.out 1).trans rfl;have hcz2:w7.cell? ⟨g9,2,none⟩ = some (.int .i64 0):=(blk_cell K9.out 2).trans rfl;have hfz0:=blk_frozen K9.out 0;have hfz1:=blk_frozen K9.out 1;have hfz2:=blk_frozen K9.out 2)
    clear hcz0 hcz1 hcz2 hfz0 hfz1 hfz2 h0 h1 h2
    have BW:=Aside0.mk (impl_NoticeFor.below3 HB6.out G9.out (.slice A1 (rd_T30 l0 j).f0.length c1) (.slice A2 (rd_T30 l0 j).f1.length c2) (.int .i64 (rd_T30 l0 j).f2))
    have K4:=Aside0.mk (impl_NoticeFor.far3 K4'.out N94.out.symm (.slice A1 (rd_T30 l0 j).f0.length c1) (.slice A2 (rd_T30 l0 j).f1.length c2) (.int .i64 (rd_T30 l0 j).f2))
    have K7:=Aside0.mk (impl_NoticeFor.far3 K7'.out N97.out.symm (.slice A1 (rd_T30 l0 j).f0.length c1) (.slice A2 (rd_T30 l0 j).f1.length c2) (.int .i64 (rd_T30 l0 j).f2))
    have HO:=Aside0.mk (impl_NoticeFor.row3 HO6.out K9.out (by decide) (.slice A1 (rd_T30 l0 j).f0.length c1) (.slice A2 (rd_T30 l0 j).f1.length c2) (.int .i64 (rd_T30 l0 j).f2))
    have HU:=Aside0.mk (impl_NoticeFor.row3 HU6.out K9.out (by decide) (.slice A1 (rd_T30 l0 j).f0.length c1) (.slice A2 (rd_T30 l0 j).f1.length c2) (.int .i64 (rd_T30 l0 j).f2))
    have K9':=Aside0.mk (impl_NoticeFor.put3 K9.out (.slice A1 (rd_T30 l0 j).f0.length c1) (.slice A2 (rd_T30 l0 j).f1.length c2) (.int .i64 (rd_T30 l0 j).f2))
    clear HB6 K4' K7' HO6 HU6 K9
    generalize (((w7.setCell ⟨g9,0,none⟩ (.slice A1 (rd_T30 l0 j).f0.length c1)).setCell ⟨g9,1,none⟩ (.slice A2 (rd_T30 l0 j).f1.length c2)).setCell ⟨g9,2,none⟩ (.int .i64 (rd_T30 l0 j).f2)) = w8 at BW K4 K7 HO HU K9' ⊢
    have hcz0:w8.cell? ⟨g9,0,none⟩ = some (.slice A1 (rd_T30 l0 j).f0.length c1):=(blk_cell K9'.out 0).trans rfl
    have hcz1:w8.cell? ⟨g9,1,none⟩ = some (.slice A2 (rd_T30 l0 j).f1.length c2):=(blk_cell K9'.out 1).trans rfl
    have hcz2:w8.cell? ⟨g9,2,none⟩ = some (.int .i64 (rd_T30 l0 j).f2):=(blk_cell K9'.out 2).trans rfl
    go_region_with (first|(go_at_call 31;refine (impl_NoticeFor.maker (⟨#[42]⟩:ByteArray) _).mono ?_;rintro e w9 ⟨B2,rfl,hBg,hBk,hb⟩;have KB2:=Aside0.mk hBk;have HD1:=Aside0.mk hb;have BW9:=Aside0.mk (below_step (below_drew1 BW.out) hb);have hd0:w9.cell? ⟨g9,0,none⟩ = some (.slice A1 (rd_T30 l0 j).f0.length c1):=(blk_cell (blk_below (blk_drew K9'.out) hb) 0).trans rfl;have hd1:w9.cell? ⟨g9,1,none⟩ = some (.slice A2 (rd_T30 l0 j).f1.length c2):=(blk_cell (blk_below (blk_drew K9'.out) hb) 1).trans rfl;have hd2:w9.cell? ⟨g9,2,none⟩ = some (.int .i64 (rd_T30 l0 j).f2):=(blk_cell (blk_below (blk_drew K9'.out) hb) 2).trans rfl;clear hBg hBk hb)|(go_at_call 32;refine (impl_NoticeFor.asks (⟨#[42]⟩:ByteArray) B2 (rd_T30 l0 j) A1 A2 c1 c2 w9 KB2.out (Kd.C_below HC1.out BW9.out) HL1.out).mono ?_;rintro e w10 ⟨rfl,hb2⟩;have HD2:=Aside0.mk (below_step HD1.out hb2);clear hb2))
    all_goals (
     have BW':=Aside0.mk (below_step (below_drew1 BW.out) HD2.out)
     have HO':=Aside0.mk (Kd.R_below (Kd.R_drew HO.out) HD2.out)
     have HU':=Aside0.mk (Kd.R_below (Kd.R_drew HU.out) HD2.out)
     have K4':=Aside0.mk (blk_below (blk_drew K4.out) HD2.out)
     have K7':=Aside0.mk (blk_below (blk_drew K7.out) HD2.out)
     have K9:=Aside0.mk (blk_below (blk_drew K9'.out) HD2.out)
     have hG:=HG.out
     rw [List.drop_eq_getElem_cons hlt,show l0[j] = rd_T30 l0 j by unfold rd_T30;rw [Int.toNat_natCast,List.getD_eq_getElem?_getD,List.getElem?_eq_getElem hlt];rfl] at hG
     simp only [impl_NoticeFor.go] at hG
     clear BW HO HU K4 K7 K9' hcz0 hcz1 hcz2 hd0 hd1 hd2 HD1 HD2 KB2 BW9 HG
     generalize impl_NoticeFor.has (⟨#[42]⟩:ByteArray) (rd_T30 l0 j) = b at hG ⊢
     cases b with
     | false =>
      have HG:=Aside0.mk (show impl_NoticeFor.go (⟨#[42]⟩:ByteArray) (l0.drop (j + 1)) rs m = some (r2,r3) by rw [if_neg Bool.false_ne_true] at hG;exact hG)
      clear hG
      go_wp2
      go_roundg (l0.length - (j + 1))
      case measure=>omega
      case rel=>exact ⟨j + 1,rs,m,u,by omega,by omega,by go_num,HG,HO',HU',K4',K7',BW'⟩
     | true =>
      rw [if_pos rfl] at hG
      by_cases hlim:rs.length + (rd_T30 l0 j).f1.length < 5864062014805
      rotate_left
      ·rw [if_neg hlim] at hG;cases hG
      rw [if_pos hlim] at hG
      have e0:mx m (rd_T30 l0 j).f2 = if m < (rd_T30 l0 j).f2 then (rd_T30 l0 j).f2 else m:=rfl
      rcases (show m < (rd_T30 l0 j).f2 ∨ m ≥ (rd_T30 l0 j).f2 by omega) with hm|hm
      ·rw [e0,if_pos hm] at hG
       clear e0
       have HG:=Aside0.mk hG
       have LM:=Aside0.mk hlim
       clear hG hlim
       have hc71:w10.cell? ⟨g7,1,none⟩ = some u:=(blk_cell K7'.out 1).trans rfl
       have hc91:w10.cell? ⟨g9,1,none⟩ = some (.slice A2 (rd_T30 l0 j).f1.length c2):=(blk_cell K9.out 1).trans rfl
       go_wp2_with ((with_reducible refine gate_builtin (b:=.append) (xs:=#[.tmp 32, .tmp 34]) rfl ?_);at_builtin;refine Kd.R_append_rows k57 (w0:=w) w.heap.size rfl (.tmp 32) (.tmp 34) 28 57 (.agg #[(.bool false),(.string ⟨#[]⟩)]) 24 rfl Try.underlying28 info57 rfl (by decide) (by omega) u rs ((rd_T30 l0 j).f1) _ _ _ (fun _=>True) (fun _=>False) rfl rfl ?aO ?aR (fun _ _ h=>h) (fun _ h=>h.elim) ?aF ?aB ?aS ?aL ?_;(case aR=>exact Kd.C_below HC2.out BW'.out);(case aB=>exact BW'.out);(case aF=>exact (fun _ _=>trivial));(case aO=>exact HU'.out);(case aS=>exact below_size BW'.out);(case aL=>have:=LM.out;omega);intro v11 w11 ho hb hg hat;have HO2:=Aside0.mk (Kd.R_over' HO'.out (Kd.R_typed HU'.out) (by decide) hg);have K42:=Aside0.mk (blk_grown (g:=g4) (o:=.cells #[.slice none 0 0, .slice none 0 0, .int .i64 0] 30 (0,0)) K4'.out hg (Kd.R_ne HU'.out K4'.out (by decide)));have K72:=Aside0.mk (blk_grown (g:=g7) (o:=.cells #[.slice Ao [a1].length co,u, .int .i64 m] 30 (0,0)) K7'.out hg (Kd.R_ne HU'.out K7'.out (by decide)));have K92:=Aside0.mk (blk_grown (g:=g9) (o:=.cells #[.slice A1 (rd_T30 l0 j).f0.length c1, .slice A2 (rd_T30 l0 j).f1.length c2, .int .i64 (rd_T30 l0 j).f2] 30 (0,0)) K9.out hg (Kd.R_ne HU'.out K9.out (by decide)));have BW2:=Aside0.mk hb;have HU2:=Aside0.mk ho;clear HO' K4' K7' K9 BW' HU' ho hb hg hat hc71 hc91;obtain ⟨Au,cu,eu⟩:=Kd.R_slice HU2.out;subst eu;have hc71:w11.cell? ⟨g7,1,none⟩ = some u:=(blk_cell K72.out 1).trans rfl;have hf71:=blk_frozen K72.out 1;have hc72:w11.cell? ⟨g7,2,none⟩ = some (.int .i64 m):=(blk_cell K72.out 2).trans rfl;have hf72:=blk_frozen K72.out 2;have hc92:w11.cell? ⟨g9,2,none⟩ = some (.int .i64 (rd_T30 l0 j).f2):=(blk_cell K92.out 2).trans rfl;have hn97:=N97.out;have hn79:=N97.out.symm)
       have HU3:=Aside0.mk (show Kd.R k57 57 w11 w.heap.size (fun _=>True) (.slice Au (rs.length + (rd_T30 l0 j).f1.length) cu) (rs ++ (rd_T30 l0 j).f1) by rw [← List.length_append];exact HU2.out)
       clear HU2
       go_roundg (l0.length - (j + 1))
       case measure=>omega
       case rel=>exact ⟨j + 1,rs ++ (rd_T30 l0 j).f1,_, .slice Au (rs.length + (rd_T30 l0 j).f1.length) cu,by omega,by omega,by go_num,HG,⟨Kd.R_mono (Kd.R_far (p:=⟨g7,2,none⟩) (Kd.R_far (p:=⟨g7,1,none⟩) (Kd.R_types HO2.out K72.out (by decide)) (fun _ hk=>hk.2) _) (fun _ hk=>hk.2) _) (fun _ h_=>h_.1)⟩,⟨Kd.R_mono (Kd.R_far (p:=⟨g7,2,none⟩) (Kd.R_far (p:=⟨g7,1,none⟩) (Kd.R_types HU3.out K72.out (by decide)) (fun _ hk=>hk.2) _) (fun _ hk=>hk.2) _) (fun _ h_=>h_.1)⟩,⟨blk_far (blk_far K42.out N74.out.symm _) N74.out.symm _⟩,⟨blk_put (blk_put K72.out 1 _ rfl) 2 _ rfl⟩,⟨below_set (below_set BW2.out G7.out) G7.out⟩⟩
      ·rw [e0,if_neg (by omega)] at hG
       clear e0
       have HG:=Aside0.mk hG
       have LM:=Aside0.mk hlim
       clear hG hlim
       have hc71:w10.cell? ⟨g7,1,none⟩ = some u:=(blk_cell K7'.out 1).trans rfl
       have hc91:w10.cell? ⟨g9,1,none⟩ = some (.slice A2 (rd_T30 l0 j).f1.length c2):=(blk_cell K9.out 1).trans rfl
       go_wp2_with ((with_reducible refine gate_builtin (b:=.append) (xs:=#[.tmp 32, .tmp 34]) rfl ?_);at_builtin;refine Kd.R_append_rows k57 (w0:=w) w.heap.size rfl (.tmp 32) (.tmp 34) 28 57 (.agg #[(.bool false),(.string ⟨#[]⟩)]) 24 rfl Try.underlying28 info57 rfl (by decide) (by omega) u rs ((rd_T30 l0 j).f1) _ _ _ (fun _=>True) (fun _=>False) rfl rfl ?aO ?aR (fun _ _ h=>h) (fun _ h=>h.elim) ?aF ?aB ?aS ?aL ?_;(case aR=>exact Kd.C_below HC2.out BW'.out);(case aB=>exact BW'.out);(case aF=>exact (fun _ _=>trivial));(case aO=>exact HU'.out);(case aS=>exact below_size BW'.out);(case aL=>have:=LM.out;omega);intro v11 w11 ho hb hg hat;have HO2:=Aside0.mk (Kd.R_over' HO'.out (Kd.R_typed HU'.out) (by decide) hg);have K42:=Aside0.mk (blk_grown (g:=g4) (o:=.cells #[.slice none 0 0, .slice none 0 0, .int .i64 0] 30 (0,0)) K4'.out hg (Kd.R_ne HU'.out K4'.out (by decide)));have K72:=Aside0.mk (blk_grown (g:=g7) (o:=.cells #[.slice Ao [a1].length co,u, .int .i64 m] 30 (0,0)) K7'.out hg (Kd.R_ne HU'.out K7'.out (by decide)));have K92:=Aside0.mk (blk_grown (g:=g9) (o:=.cells #[.slice A1 (rd_T30 l0 j).f0.length c1, .slice A2 (rd_T30 l0 j).f1.length c2, .int .i64 (rd_T30 l0 j).f2] 30 (0,0)) K9.out hg (Kd.R_ne HU'.out K9.out (by decide)));have BW2:=Aside0.mk hb;have HU2:=Aside0.mk ho;clear HO' K4' K7' K9 BW' HU' ho hb hg hat hc71 hc91;obtain ⟨Au,cu,eu⟩:=Kd.R_slice HU2.out;subst eu;have hc71:w11.cell? ⟨g7,1,none⟩ = some u:=(blk_cell K72.out 1).trans rfl;have hf71:=blk_frozen K72.out 1;have hc72:w11.cell? ⟨g7,2,none⟩ = some (.int .i64 m):=(blk_cell K72.out 2).trans rfl;have hf72:=blk_frozen K72.out 2;have hc92:w11.cell? ⟨g9,2,none⟩ = some (.int .i64 (rd_T30 l0 j).f2):=(blk_cell K92.out 2).trans rfl;have hn97:=N97.out;have hn79:=N97.out.symm)
       have HU3:=Aside0.mk (show Kd.R k57 57 w11 w.heap.size (fun _=>True) (.slice Au (rs.length + (rd_T30 l0 j).f1.length) cu) (rs ++ (rd_T30 l0 j).f1) by rw [← List.length_append];exact HU2.out)
       clear HU2
       go_roundg (l0.length - (j + 1))
       case measure=>omega
       case rel=>exact ⟨j + 1,rs ++ (rd_T30 l0 j).f1,_, .slice Au (rs.length + (rd_T30 l0 j).f1.length) cu,by omega,by omega,by go_num,HG,⟨Kd.R_mono (Kd.R_far (p:=⟨g7,2,none⟩) (Kd.R_far (p:=⟨g7,1,none⟩) (Kd.R_types HO2.out K72.out (by decide)) (fun _ hk=>hk.2) _) (fun _ hk=>hk.2) _) (fun _ h_=>h_.1)⟩,⟨Kd.R_mono (Kd.R_far (p:=⟨g7,2,none⟩) (Kd.R_far (p:=⟨g7,1,none⟩) (Kd.R_types HU3.out K72.out (by decide)) (fun _ hk=>hk.2) _) (fun _ hk=>hk.2) _) (fun _ h_=>h_.1)⟩,⟨blk_far (blk_far K42.out N74.out.symm _) N74.out.symm _⟩,⟨blk_put (blk_put K72.out 1 _ rfl) 2 _ rfl⟩,⟨below_set (below_set BW2.out G7.out) G7.out⟩⟩)
   ·have hltz:¬ (j:Int) < (l0.length:Int):=by omega
    obtain rfl:j = l0.length:=by omega
    have hG:=HG.out
    rw [List.drop_length] at hG
    simp only [impl_NoticeFor.go,Option.some.injEq,Prod.mk.injEq] at hG
    obtain ⟨rfl,rfl⟩:=hG
    clear HG
    obtain ⟨Au,cu,eu⟩:=Kd.R_slice HU.out
    subst eu
    have hc70:wr.cell? ⟨g7,0,none⟩ = some (.slice Ao [a1].length co):=(blk_cell K7.out 0).trans rfl
    have hc71:wr.cell? ⟨g7,1,none⟩ = some (.slice Au rs.length cu):=(blk_cell K7.out 1).trans rfl
    have hc72:wr.cell? ⟨g7,2,none⟩ = some (.int .i64 m):=(blk_cell K7.out 2).trans rfl
    have hc40:wr.cell? ⟨g4,0,none⟩ = some (.slice none 0 0):=(blk_cell K4.out 0).trans rfl
    have hc41:wr.cell? ⟨g4,1,none⟩ = some (.slice none 0 0):=(blk_cell K4.out 1).trans rfl
    have hc42:wr.cell? ⟨g4,2,none⟩ = some (.int .i64 0):=(blk_cell K4.out 2).trans rfl
    have hf40:=blk_frozen K4.out 0
    have hf41:=blk_frozen K4.out 1
    have hf42:=blk_frozen K4.out 2
    have hn74:=N74.out
    have hn47:=N74.out.symm
    go_wp2
    refine bodyPost_ret (results_cell_row rfl _ _ g4 30 #[.slice Ao [a1].length co, .slice Au rs.length cu, .int .i64 m] (0,0) _ rfl (impl_NoticeFor.put3 K4.out _ _ _) Try.underlying30 rfl (by kernel_rfl)) rfl ?_
    exact ⟨_,_,rfl,impl_NoticeFor.row3 HO.out K4.out (by decide) _ _ _,impl_NoticeFor.row3 HU.out K4.out (by decide) _ _ _,impl_NoticeFor.below3 BW.out G4.out _ _ _⟩

/-! ### laws_FnExactNoticeFor: function 10 -/
/-- What the law's way goes through; a way that would tell 'no' is left out. -/
def laws_FnExactNoticeFor.f (k:Nat) (l0:List (S65)) (a1:ByteArray):Option Bool :=
 if (a1.size:Int) > 1048576 then some true else
 (laws_szGroupS.f k l0 1048576).bind fun z=>if z < 0 then some true else
 (laws_toGroupS.f k l0).bind fun x=>(spec_NoticeFor.f k x a1).bind fun p=>(impl_NoticeFor.f x a1).bind fun q =>
 (laws_eqGroup.f k q.1 q.2.1 q.2.2 p.1 p.2.1 p.2.2).bind fun e=>if e = true then
 (laws_eqGroupS.f k x x).bind fun e2=>if e2 = true then
 (laws_markGroupS.f k x 1).bind fun n=>if n < 0 then none else
 (laws_markGroup.f k q.1 q.2.1 q.2.2 1).bind fun m =>
 (laws_heldGroup.f k m.2.1 m.2.2 q.2.2 1).bind fun u=>if u < 0 then none else if u = m.1 then some true else none
 else none else none
/-- A group in a variable of the call's own: its three cells, and what two of them lead to. -/
structure laws_FnExactNoticeFor.G (w W:World) (b:Nat) (v0 v1:Value) (l:List ByteArray) (s:List S57) (m:Int) (ok:Nat → Prop):Prop where
 box:W.heap[b]? = some (.cells #[v0,v1, .int .i64 m] 30 (0,0))
 r0:Kd.R Kd.string 9 W w.heap.size ok v0 l
 r1:Kd.R k57 57 W w.heap.size ok v1 s
theorem laws_FnExactNoticeFor.G.below {w W W':World} {b:Nat} {v0 v1:Value} {l:List ByteArray} {s:List S57} {m:Int} {ok:Nat → Prop} (h:laws_FnExactNoticeFor.G w W b v0 v1 l s m ok) (hb:Below W.heap.size W W'):laws_FnExactNoticeFor.G w W' b v0 v1 l s m ok :=
 ⟨blk_below h.box hb,Kd.R_below h.r0 hb,Kd.R_below h.r1 hb⟩
theorem laws_FnExactNoticeFor.G.kept {w W W':World} {b:Nat} {v0 v1:Value} {l:List ByteArray} {s:List S57} {m:Int} {ok S:Nat → Prop} (h:laws_FnExactNoticeFor.G w W b v0 v1 l s m ok) (hk:Kept W W' S) (hb:¬ S b) (hS:∀ k,ok k → ¬ S k):laws_FnExactNoticeFor.G w W' b v0 v1 l s m ok :=
 ⟨blk_kept h.box hk hb,Kd.R_step h.r0 (fun k hk' hlt=>hk.2 k hlt (hS k hk')),Kd.R_step h.r1 (fun k hk' hlt=>hk.2 k hlt (hS k hk'))⟩
/-- A variable is made and written. -/
theorem laws_FnExactNoticeFor.G.made {w W:World} {b:Nat} {v0 v1 a c d:Value} {l:List ByteArray} {s:List S57} {m:Int} {ok:Nat → Prop} (hb:W.heap[b]? = some (.cells #[a,c,d] 30 (0,0))) (h0:Kd.R Kd.string 9 W w.heap.size ok v0 l) (h1:Kd.R k57 57 W w.heap.size ok v1 s) :
  laws_FnExactNoticeFor.G w (((W.setCell ⟨b,0,none⟩ v0).setCell ⟨b,1,none⟩ v1).setCell ⟨b,2,none⟩ (.int .i64 m)) b v0 v1 l s m ok :=
 ⟨impl_NoticeFor.put3 hb _ _ _,impl_NoticeFor.row3 h0 hb (by decide) _ _ _,impl_NoticeFor.row3 h1 hb (by decide) _ _ _⟩
theorem laws_FnExactNoticeFor.G.far {w W:World} {b b':Nat} {v0 v1:Value} {l:List ByteArray} {s:List S57} {m:Int} {ok:Nat → Prop} {cs:Array Value} (h:laws_FnExactNoticeFor.G w W b v0 v1 l s m ok) (hb:W.heap[b']? = some (.cells cs 30 (0,0))) (hn:b ≠ b') (a c d:Value) :
  laws_FnExactNoticeFor.G w (((W.setCell ⟨b',0,none⟩ a).setCell ⟨b',1,none⟩ c).setCell ⟨b',2,none⟩ d) b v0 v1 l s m ok :=
 ⟨impl_NoticeFor.far3 h.box hn _ _ _,impl_NoticeFor.row3 h.r0 hb (by decide) _ _ _,impl_NoticeFor.row3 h.r1 hb (by decide) _ _ _⟩
theorem laws_FnExactNoticeFor.S3 {w:World} {g:Nat} {base:Nat} {ok:Nat → Prop} {v:Value} {x:List S30} (h:Kd.S k30 30 w base ok v x) (hg:∀ k,ok k → k ≠ g) (a b c:Value) :
  Kd.S k30 30 (((w.setCell ⟨g,0,none⟩ a).setCell ⟨g,1,none⟩ b).setCell ⟨g,2,none⟩ c) base ok v x :=
 Kd.S_far (p:=⟨g,2,none⟩) (Kd.S_far (p:=⟨g,1,none⟩) (Kd.S_far (p:=⟨g,0,none⟩) h hg a) hg b) hg c
theorem laws_FnExactNoticeFor.calls (k:Nat) (A0:Option Addr) (c0:Nat) (l0:List (S65)) (a1:ByteArray) (r:Bool) (w:World) (hr0:Kd.C k65 w A0 l0.length l0) (hc0:l0.length ≤ c0) (h:laws_FnExactNoticeFor.f k l0 a1 = some r) :
  Calls Try.prog 10 #[.slice A0 l0.length c0, .string a1] w fun e w'=>e = .returned (.bool r) ∧ Below w.heap.size w w':=by
 have HB:=Aside0.mk (Below.refl w.heap.size w)
 unfold laws_FnExactNoticeFor.f at h
 by_cases c1:(a1.size:Int) > 1048576
 ·rw [if_pos c1] at h
  obtain rfl:=Option.some.inj h
  clear h
  go_enter Try.func10,Try.ntmps10
  go_wp2
  go_ret
  exact ⟨rfl,HB.out⟩
 rw [if_neg c1] at h
 obtain ⟨z,h1,h⟩:=Option.bind_eq_some_iff.mp h
 have HC:=Aside0.mk hr0
 have H1:=Aside0.mk h1
 clear hr0 h1
 by_cases c2:z < 0
 ·rw [if_pos c2] at h
  obtain rfl:=Option.some.inj h
  clear h
  go_enter Try.func10,Try.ntmps10
  go_wp2_with fail
  refine (laws_szGroupS.calls k _ _ l0 _ z _ HC.out hc0 H1.out).mono ?_
  rintro e w1 ⟨rfl,hb⟩
  go_wp2
  go_ret
  exact ⟨rfl,hb⟩
 rw [if_neg c2] at h
 obtain ⟨x,h2,h⟩:=Option.bind_eq_some_iff.mp h
 obtain ⟨⟨pl,ps,pm⟩,h3,h⟩:=Option.bind_eq_some_iff.mp h
 obtain ⟨⟨ql,qs,qm⟩,h4,h⟩:=Option.bind_eq_some_iff.mp h
 obtain ⟨e5,h5,h⟩:=Option.bind_eq_some_iff.mp h
 rcases e5 with _|_
 ·rw [if_neg Bool.false_ne_true] at h;cases h
 rw [if_pos rfl] at h
 obtain ⟨e6,h6,h⟩:=Option.bind_eq_some_iff.mp h
 rcases e6 with _|_
 ·rw [if_neg Bool.false_ne_true] at h;cases h
 rw [if_pos rfl] at h
 obtain ⟨n,h7,h⟩:=Option.bind_eq_some_iff.mp h
 by_cases c7:n < 0
 ·rw [if_pos c7] at h;cases h
 rw [if_neg c7] at h
 obtain ⟨⟨m,ml,ms⟩,h8,h⟩:=Option.bind_eq_some_iff.mp h
 obtain ⟨u,h9,h⟩:=Option.bind_eq_some_iff.mp h
 by_cases c9:u < 0
 ·rw [if_pos c9] at h;cases h
 rw [if_neg c9] at h
 by_cases c10:u = m
 rotate_left
 ·rw [if_neg c10] at h;cases h
 rw [if_pos c10] at h
 obtain rfl:=Option.some.inj h
 subst c10
 clear h
 have H2:=Aside0.mk h2
 have H3:=Aside0.mk h3
 have H4:=Aside0.mk h4
 have H5:=Aside0.mk h5
 have H6:=Aside0.mk h6
 have H7:=Aside0.mk h7
 have H8:=Aside0.mk h8
 have H9:=Aside0.mk h9
 clear h2 h3 h4 h5 h6 h7 h8 h9
 go_enter Try.func10,Try.ntmps10
 go_wp2_with fail
 refine (laws_szGroupS.calls k _ _ l0 _ z _ HC.out hc0 H1.out).mono ?_
 rintro e w1 ⟨rfl,hb⟩
 have HB1:=Aside0.mk hb
 clear hb HB
 go_wp2_with fail
 refine (laws_toGroupS.calls k _ _ l0 x _ (Kd.C_below HC.out HB1.out) hc0 H2.out).mono ?_
 rintro e w2 ⟨vy,rfl,hs,hb⟩
 obtain ⟨Ay,cy,rfl⟩:=Kd.S_slice hs
 have HB2:=Aside0.mk (below_step HB1.out hb)
 have HY:=Aside0.mk (Kd.S_reads' hs).2
 clear hb hs HB1
 go_wp2_with fail
 refine (spec_NoticeFor.calls k _ _ x a1 pl ps pm _ HY.out.2 HY.out.1 H3.out).mono ?_
 rintro e w3 ⟨vp0,vp1,rfl,ho0,ho1,hb⟩
 have HB3:=Aside0.mk (below_step HB2.out hb)
 have HP0:=Aside0.mk (Kd.R_lower ho0 (below_size HB2.out))
 have HP1:=Aside0.mk (Kd.R_lower ho1 (below_size HB2.out))
 clear hb ho0 ho1 HB2 HY
 obtain ⟨Ap0,cp0,rfl⟩:=Kd.R_slice HP0.out
 obtain ⟨Ap1,cp1,rfl⟩:=Kd.R_slice HP1.out
 go_wp2_with ((with_reducible refine gate_dst (N:=6) rfl ?_);refine box_event ?hg (N:=6) ?hd (cs:=#[.slice none 0 0, .slice none 0 0, .int .i64 0]) (t:=30) ?hr ?_;(case hd=>rfl);(case hg=>rfl);(case hr=>go_simp <;> rfl);intro b6 hg w4 hbox hb;have HB4:=Aside0.mk (below_step HB3.out hb);have P0:=Aside0.mk (Kd.R_below HP0.out hb);have P1:=Aside0.mk (Kd.R_below HP1.out hb);have K6:=Aside0.mk hbox;have W6:=Aside0.mk (show w.heap.size ≤ b6 by rw [hg];exact below_size HB3.out);clear HB3 HP0 HP1 hb hbox hg;have hcz0:w4.cell? ⟨b6,0,none⟩ = some (.slice none 0 0):=(blk_cell K6.out 0).trans rfl;have hcz1:w4.cell? ⟨b6,1,none⟩ = some (.slice none 0 0):=(blk_cell K6.out 1).trans rfl;have hcz2:w4.cell? ⟨b6,2,none⟩ = some (.int .i64 0):=(blk_cell K6.out 2).trans rfl;have hfz0:=blk_frozen K6.out 0;have hfz1:=blk_frozen K6.out 1;have hfz2:=blk_frozen K6.out 2)
 have G6':=Aside0.mk (laws_FnExactNoticeFor.G.made (m:=pm) K6.out P0.out P1.out)
 have HB5:=Aside0.mk (impl_NoticeFor.below3 HB4.out W6.out (.slice Ap0 pl.length cp0) (.slice Ap1 ps.length cp1) (.int .i64 pm))
 clear K6 P0 P1 HB4 hcz0 hcz1 hcz2 hfz0 hfz1 hfz2
 generalize (((w4.setCell ⟨b6,0,none⟩ (.slice Ap0 pl.length cp0)).setCell ⟨b6,1,none⟩ (.slice Ap1 ps.length cp1)).setCell ⟨b6,2,none⟩ (.int .i64 pm)) = w5 at G6' HB5 ⊢
 have G6:=Aside0.mk (show laws_FnExactNoticeFor.G w w5 b6 (.slice Ap0 pl.length cp0) (.slice Ap1 ps.length cp1) pl ps pm (fun k_=>k_ < w5.heap.size) from ⟨G6'.out.box,Kd.R_mono (Kd.R_bound G6'.out.r0) (fun _ h_=>h_.2.2.1),Kd.R_mono (Kd.R_bound G6'.out.r1) (fun _ h_=>h_.2.2.1)⟩)
 have L6:=Aside0.mk (blk_lt G6'.out.box)
 clear G6'
 refine (laws_toGroupS.calls k _ _ l0 x _ (Kd.C_below HC.out HB5.out) hc0 H2.out).mono ?_
 rintro e w6 ⟨vx,rfl,hs,hb⟩
 obtain ⟨Ax,cx,rfl⟩:=Kd.S_slice hs
 have HB6:=Aside0.mk (below_step HB5.out hb)
 have G61:=Aside0.mk (G6.out.below hb)
 have E56:=Aside0.mk hb.size
 have HX:=Aside0.mk (Kd.S_lower (Kd.S_mono (Kd.S_bound hs) (ok':=fun k_=>w5.heap.size ≤ k_ ∧ k_ < w6.heap.size) (fun k_ h_=>⟨h_.2.1,h_.2.2.1⟩)) (below_size HB5.out))
 clear hs hb HB5 G6
 go_wp2_with fail
 refine (impl_NoticeFor.calls _ _ x a1 ql qs qm _ (Kd.S_reads' HX.out).2.2 (Kd.S_reads' HX.out).2.1 H4.out).mono ?_
 rintro e w7 ⟨vq0,vq1,rfl,ho0,ho1,hb⟩
 have HB7:=Aside0.mk (below_step HB6.out hb)
 have Q0:=Aside0.mk (Kd.R_lower (Kd.R_mono (Kd.R_bound ho0) (ok':=fun k_=>w6.heap.size ≤ k_) (fun k_ h_=>h_.2.1)) (below_size HB6.out))
 have Q1:=Aside0.mk (Kd.R_lower (Kd.R_mono (Kd.R_bound ho1) (ok':=fun k_=>w6.heap.size ≤ k_) (fun k_ h_=>h_.2.1)) (below_size HB6.out))
 have HX7:=Aside0.mk (Kd.S_below HX.out hb)
 have G67:=Aside0.mk (G61.out.below hb)
 have E67:=Aside0.mk hb.size
 clear hb ho0 ho1 HB6 HX G61
 obtain ⟨Aq0,cq0,rfl⟩:=Kd.R_slice Q0.out
 obtain ⟨Aq1,cq1,rfl⟩:=Kd.R_slice Q1.out
 go_wp2_with ((with_reducible refine gate_dst (N:=8) rfl ?_);refine box_event ?hg (N:=8) ?hd (cs:=#[.slice none 0 0, .slice none 0 0, .int .i64 0]) (t:=30) ?hr ?_;(case hd=>rfl);(case hg=>rfl);(case hr=>go_simp <;> rfl);intro b8 hg w8 hbox hb;have HB8:=Aside0.mk (below_step HB7.out hb);have Q08:=Aside0.mk (Kd.R_below Q0.out hb);have Q18:=Aside0.mk (Kd.R_below Q1.out hb);have HX8:=Aside0.mk (Kd.S_below HX7.out hb);have G68:=Aside0.mk (G67.out.below hb);have K8:=Aside0.mk hbox;have W8:=Aside0.mk (show w.heap.size ≤ b8 by rw [hg];exact below_size HB7.out);have L8:=Aside0.mk (show w6.heap.size ≤ b8 by rw [hg];exact E67.out);have N68:=Aside0.mk (show b6 ≠ b8 by rw [hg];exact Nat.ne_of_lt (blk_lt G67.out.box));clear HB7 Q0 Q1 HX7 G67 hb hbox hg;have hcz0:w8.cell? ⟨b8,0,none⟩ = some (.slice none 0 0):=(blk_cell K8.out 0).trans rfl;have hcz1:w8.cell? ⟨b8,1,none⟩ = some (.slice none 0 0):=(blk_cell K8.out 1).trans rfl;have hcz2:w8.cell? ⟨b8,2,none⟩ = some (.int .i64 0):=(blk_cell K8.out 2).trans rfl;have hfz0:=blk_frozen K8.out 0;have hfz1:=blk_frozen K8.out 1;have hfz2:=blk_frozen K8.out 2;have hcy0:w8.cell? ⟨b6,0,none⟩ = some (.slice Ap0 pl.length cp0):=(blk_cell G68.out.box 0).trans rfl;have hcy1:w8.cell? ⟨b6,1,none⟩ = some (.slice Ap1 ps.length cp1):=(blk_cell G68.out.box 1).trans rfl;have hcy2:w8.cell? ⟨b6,2,none⟩ = some (.int .i64 pm):=(blk_cell G68.out.box 2).trans rfl;have hn68:=N68.out;have hn86:=N68.out.symm)
 have G8:=Aside0.mk (laws_FnExactNoticeFor.G.made (m:=qm) K8.out Q08.out Q18.out)
 have G69:=Aside0.mk (G68.out.far K8.out N68.out (.slice Aq0 ql.length cq0) (.slice Aq1 qs.length cq1) (.int .i64 qm))
 have HB9:=Aside0.mk (impl_NoticeFor.below3 HB8.out W8.out (.slice Aq0 ql.length cq0) (.slice Aq1 qs.length cq1) (.int .i64 qm))
 have HX9:=Aside0.mk (laws_FnExactNoticeFor.S3 (g:=b8) HX8.out (fun k_ h_ e_=>by have:=L8.out;have:=h_.2;omega) (.slice Aq0 ql.length cq0) (.slice Aq1 qs.length cq1) (.int .i64 qm))
 clear K8 Q08 Q18 HB8 G68 HX8 hcz0 hcz1 hcz2 hfz0 hfz1 hfz2 hcy0 hcy1 hcy2
 generalize (((w8.setCell ⟨b8,0,none⟩ (.slice Aq0 ql.length cq0)).setCell ⟨b8,1,none⟩ (.slice Aq1 qs.length cq1)).setCell ⟨b8,2,none⟩ (.int .i64 qm)) = w9 at G8 G69 HB9 HX9 ⊢
 refine (laws_eqGroup.calls k _ _ ql _ _ qs qm _ _ pl _ _ ps pm true w9 (Kd.R_reads' G8.out.r0).2.2 (Kd.R_reads' G8.out.r0).2.1 (Kd.R_reads' G8.out.r1).2.2 (Kd.R_reads' G8.out.r1).2.1 (Kd.R_reads' G69.out.r0).2.2 (Kd.R_reads' G69.out.r0).2.1 (Kd.R_reads' G69.out.r1).2.2 (Kd.R_reads' G69.out.r1).2.1 H5.out).mono ?_
 rintro e w10 ⟨rfl,hb⟩
 have HB10:=Aside0.mk (below_step HB9.out hb)
 have G810:=Aside0.mk (G8.out.below hb)
 have G610:=Aside0.mk (G69.out.below hb)
 have HX10:=Aside0.mk (Kd.S_below HX9.out hb)
 clear hb HB9 G8 G69 HX9
 go_wp2_with fail
 refine (laws_toGroupS.calls k _ _ l0 x _ (Kd.C_below HC.out HB10.out) hc0 H2.out).mono ?_
 rintro e w11 ⟨vy,rfl,hs,hb⟩
 obtain ⟨Az,cz,rfl⟩:=Kd.S_slice hs
 have HZ:=Aside0.mk (Kd.S_reads' hs).2
 have HB11:=Aside0.mk (below_step HB10.out hb)
 have G811:=Aside0.mk (G810.out.below hb)
 have G611:=Aside0.mk (G610.out.below hb)
 have HX11:=Aside0.mk (Kd.S_below HX10.out hb)
 clear hb hs HB10 G810 G610 HX10
 go_wp2_with fail
 refine (laws_eqGroupS.calls k _ _ x _ _ x true _ (Kd.S_reads' HX11.out).2.2 (Kd.S_reads' HX11.out).2.1 HZ.out.2 HZ.out.1 H6.out).mono ?_
 rintro e w12 ⟨rfl,hb⟩
 have HB12:=Aside0.mk (below_step HB11.out hb)
 have G812:=Aside0.mk (G811.out.below hb)
 have G612:=Aside0.mk (G611.out.below hb)
 have HX12:=Aside0.mk (Kd.S_below HX11.out hb)
 clear hb HZ HB11 G811 G611 HX11
 go_wp2_with fail
 refine (laws_markGroupS.calls k (fun k_=>w5.heap.size ≤ k_ ∧ k_ < w6.heap.size) _ x 1 n w w12 HB12.out HX12.out H7.out).mono ?_
 rintro e w13 ⟨rfl,hb,hk⟩
 have G613:=Aside0.mk (G612.out.kept hk (fun h_=>by have:=L6.out;have:=h_.1;omega) (fun k_ h_ h2_=>by have:=h2_.1;omega))
 have G813:=Aside0.mk (G812.out.kept hk (fun h_=>by have:=L8.out;have:=h_.2;omega) (fun k_ h_ h2_=>by have:=h2_.2;omega))
 have HB13:=Aside0.mk hb
 clear hb hk HB12 G812 G612 HX12
 have hcy0:w13.cell? ⟨b6,0,none⟩ = some (.slice Ap0 pl.length cp0):=(blk_cell G613.out.box 0).trans rfl
 have hcy1:w13.cell? ⟨b6,1,none⟩ = some (.slice Ap1 ps.length cp1):=(blk_cell G613.out.box 1).trans rfl
 have hcy2:w13.cell? ⟨b6,2,none⟩ = some (.int .i64 pm):=(blk_cell G613.out.box 2).trans rfl
 have hcx0:w13.cell? ⟨b8,0,none⟩ = some (.slice Aq0 ql.length cq0):=(blk_cell G813.out.box 0).trans rfl
 have hcx1:w13.cell? ⟨b8,1,none⟩ = some (.slice Aq1 qs.length cq1):=(blk_cell G813.out.box 1).trans rfl
 have hcx2:w13.cell? ⟨b8,2,none⟩ = some (.int .i64 qm):=(blk_cell G813.out.box 2).trans rfl
 go_wp2_with fail
 clear hcy0 hcy1 hcy2 hcx0 hcx1 hcx2
 refine (laws_eqGroup.calls k _ _ ql _ _ qs qm _ _ pl _ _ ps pm true w13 (Kd.R_reads' G813.out.r0).2.2 (Kd.R_reads' G813.out.r0).2.1 (Kd.R_reads' G813.out.r1).2.2 (Kd.R_reads' G813.out.r1).2.1 (Kd.R_reads' G613.out.r0).2.2 (Kd.R_reads' G613.out.r0).2.1 (Kd.R_reads' G613.out.r1).2.2 (Kd.R_reads' G613.out.r1).2.1 H5.out).mono ?_
 rintro e w14 ⟨rfl,hb⟩
 have HB14:=Aside0.mk (below_step HB13.out hb)
 have G814:=Aside0.mk (G813.out.below hb)
 have G614:=Aside0.mk (G613.out.below hb)
 clear hb HB13 G813 G613
 have hcx0:w14.cell? ⟨b8,0,none⟩ = some (.slice Aq0 ql.length cq0):=(blk_cell G814.out.box 0).trans rfl
 have hcx1:w14.cell? ⟨b8,1,none⟩ = some (.slice Aq1 qs.length cq1):=(blk_cell G814.out.box 1).trans rfl
 have hcx2:w14.cell? ⟨b8,2,none⟩ = some (.int .i64 qm):=(blk_cell G814.out.box 2).trans rfl
 go_wp2_with fail
 clear hcx0 hcx1 hcx2
 refine (laws_markGroup.calls k (fun k_=>some k_ = (.slice Aq0 ql.length cq0:Value).ownBlock) _ ql (fun k_=>some k_ = (.slice Aq1 qs.length cq1:Value).ownBlock) _ qs qm 1 _ ml ms w w14 HB14.out (Kd.R_tight rfl G814.out.r0) (Kd.R_tight rfl G814.out.r1) H8.out).mono ?_
 rintro e w15 ⟨rfl,hr0,hr1,hb,hk⟩
 have G615:=Aside0.mk (G614.out.kept hk (fun h_=>h_.elim (Kd.R_ne G814.out.r0 G614.out.box (by decide)) (Kd.R_ne G814.out.r1 G614.out.box (by decide))) (fun k_ h_ h2_=>by have h3_:w6.heap.size ≤ k_:=h2_.elim (fun e_=>G814.out.r0.1 k_ e_.symm) (fun e_=>G814.out.r1.1 k_ e_.symm);have:=E56.out;omega))
 have G815:=Aside0.mk (show laws_FnExactNoticeFor.G w w15 b8 (.slice Aq0 ql.length cq0) (.slice Aq1 qs.length cq1) ml ms qm (fun _=>True) from ⟨blk_kept G814.out.box hk (fun h_=>h_.elim (Kd.R_ne G814.out.r0 G814.out.box (by decide)) (Kd.R_ne G814.out.r1 G814.out.box (by decide))),Kd.R_mono hr0 (fun _ _=>trivial),Kd.R_mono hr1 (fun _ _=>trivial)⟩)
 have HB15:=Aside0.mk hb
 have el0:ql.length = ml.length:=(Kd.R_reads' G815.out.r0).1
 have el1:qs.length = ms.length:=(Kd.R_reads' G815.out.r1).1
 have EL0:=Aside0.mk el0
 have EL1:=Aside0.mk el1
 clear hr0 hr1 hb hk HB14 G814 G614 el0 el1
 have hcx0:w15.cell? ⟨b8,0,none⟩ = some (.slice Aq0 ql.length cq0):=(blk_cell G815.out.box 0).trans rfl
 have hcx1:w15.cell? ⟨b8,1,none⟩ = some (.slice Aq1 qs.length cq1):=(blk_cell G815.out.box 1).trans rfl
 have hcx2:w15.cell? ⟨b8,2,none⟩ = some (.int .i64 qm):=(blk_cell G815.out.box 2).trans rfl
 go_wp2_with fail
 clear hcx0 hcx1 hcx2
 have hheld:Calls Try.prog 27 #[.agg #[.slice Aq0 ql.length cq0, .slice Aq1 qs.length cq1, .int .i64 qm], .int .i64 1] w15 fun e w'=>e = .returned (.int .i64 u) ∧ Below w15.heap.size w15 w':=by
  have h0_:=(Kd.R_reads' G815.out.r0)
  have h1_:=(Kd.R_reads' G815.out.r1)
  rw [EL0.out] at h0_ ⊢
  rw [EL1.out] at h1_ ⊢
  exact laws_heldGroup.calls k _ _ ml _ _ ms qm 1 u w15 h0_.2.2 h0_.2.1 h1_.2.2 h1_.2.1 H9.out
 refine hheld.mono ?_
 rintro e w16 ⟨rfl,hb⟩
 have HB16:=Aside0.mk (below_step HB15.out hb)
 have G816:=Aside0.mk (G815.out.below hb)
 have G616:=Aside0.mk (G615.out.below hb)
 clear hb hheld HB15 G815 G615
 go_wp2_with fail
 refine (laws_toGroupS.calls k _ _ l0 x _ (Kd.C_below HC.out HB16.out) hc0 H2.out).mono ?_
 rintro e w17 ⟨vy2,rfl,hs,hb⟩
 obtain ⟨Aw,cw,rfl⟩:=Kd.S_slice hs
 have HZ:=Aside0.mk (Kd.S_reads' hs).2
 have HB17:=Aside0.mk (below_step HB16.out hb)
 have G817:=Aside0.mk (G816.out.below hb)
 have G617:=Aside0.mk (G616.out.below hb)
 clear hb hs HB16 G816 G616
 go_wp2_with fail
 refine (impl_NoticeFor.calls _ _ x a1 ql qs qm _ HZ.out.2 HZ.out.1 H4.out).mono ?_
 rintro e w18 ⟨vr0,vr1,rfl,ho0,ho1,hb⟩
 have R0:=Aside0.mk (Kd.R_lower ho0 (below_size HB17.out))
 have R1:=Aside0.mk (Kd.R_lower ho1 (below_size HB17.out))
 have HB18:=Aside0.mk (below_step HB17.out hb)
 have G818:=Aside0.mk (G817.out.below hb)
 have G618:=Aside0.mk (G617.out.below hb)
 clear hb ho0 ho1 HB17 G817 G617 HZ
 obtain ⟨Ar0,cr0,rfl⟩:=Kd.R_slice R0.out
 obtain ⟨Ar1,cr1,rfl⟩:=Kd.R_slice R1.out
 go_wp2_with ((with_reducible refine gate_dst (N:=12) rfl ?_);refine box_event ?hg (N:=12) ?hd (cs:=#[.slice none 0 0, .slice none 0 0, .int .i64 0]) (t:=30) ?hr ?_;(case hd=>rfl);(case hg=>rfl);(case hr=>go_simp <;> rfl);intro b12 hg w19 hbox hb;have HB19:=Aside0.mk (below_step HB18.out hb);have R09:=Aside0.mk (Kd.R_below R0.out hb);have R19:=Aside0.mk (Kd.R_below R1.out hb);have G819:=Aside0.mk (G818.out.below hb);have G619:=Aside0.mk (G618.out.below hb);have K12:=Aside0.mk hbox;have W12:=Aside0.mk (show w.heap.size ≤ b12 by rw [hg];exact below_size HB18.out);have N612:=Aside0.mk (show b6 ≠ b12 by rw [hg];exact Nat.ne_of_lt (blk_lt G618.out.box));have N812:=Aside0.mk (show b8 ≠ b12 by rw [hg];exact Nat.ne_of_lt (blk_lt G818.out.box));clear HB18 R0 R1 G818 G618 hb hbox hg;have hcz0:w19.cell? ⟨b12,0,none⟩ = some (.slice none 0 0):=(blk_cell K12.out 0).trans rfl;have hcz1:w19.cell? ⟨b12,1,none⟩ = some (.slice none 0 0):=(blk_cell K12.out 1).trans rfl;have hcz2:w19.cell? ⟨b12,2,none⟩ = some (.int .i64 0):=(blk_cell K12.out 2).trans rfl;have hfz0:=blk_frozen K12.out 0;have hfz1:=blk_frozen K12.out 1;have hfz2:=blk_frozen K12.out 2;have hcy0:w19.cell? ⟨b6,0,none⟩ = some (.slice Ap0 pl.length cp0):=(blk_cell G619.out.box 0).trans rfl;have hcy1:w19.cell? ⟨b6,1,none⟩ = some (.slice Ap1 ps.length cp1):=(blk_cell G619.out.box 1).trans rfl;have hcy2:w19.cell? ⟨b6,2,none⟩ = some (.int .i64 pm):=(blk_cell G619.out.box 2).trans rfl;have hn612:=N612.out;have hn126:=N612.out.symm)
 have G12:=Aside0.mk (laws_FnExactNoticeFor.G.made (m:=qm) K12.out R09.out R19.out)
 have G620:=Aside0.mk (G619.out.far K12.out N612.out (.slice Ar0 ql.length cr0) (.slice Ar1 qs.length cr1) (.int .i64 qm))
 have G820:=Aside0.mk (G819.out.far K12.out N812.out (.slice Ar0 ql.length cr0) (.slice Ar1 qs.length cr1) (.int .i64 qm))
 have HB20:=Aside0.mk (impl_NoticeFor.below3 HB19.out W12.out (.slice Ar0 ql.length cr0) (.slice Ar1 qs.length cr1) (.int .i64 qm))
 clear K12 R09 R19 HB19 G619 G819 hcz0 hcz1 hcz2 hfz0 hfz1 hfz2 hcy0 hcy1 hcy2 hn612 hn126
 generalize (((w19.setCell ⟨b12,0,none⟩ (.slice Ar0 ql.length cr0)).setCell ⟨b12,1,none⟩ (.slice Ar1 qs.length cr1)).setCell ⟨b12,2,none⟩ (.int .i64 qm)) = w20 at G12 G620 G820 HB20 ⊢
 refine (laws_eqGroup.calls k _ _ ql _ _ qs qm _ _ pl _ _ ps pm true w20 (Kd.R_reads' G12.out.r0).2.2 (Kd.R_reads' G12.out.r0).2.1 (Kd.R_reads' G12.out.r1).2.2 (Kd.R_reads' G12.out.r1).2.1 (Kd.R_reads' G620.out.r0).2.2 (Kd.R_reads' G620.out.r0).2.1 (Kd.R_reads' G620.out.r1).2.2 (Kd.R_reads' G620.out.r1).2.1 H5.out).mono ?_
 rintro e w21 ⟨rfl,hb⟩
 have HB21:=Aside0.mk (below_step HB20.out hb)
 have G821:=Aside0.mk (G820.out.below hb)
 clear hb HB20 G820 G12 G620
 have hcx0:w21.cell? ⟨b8,0,none⟩ = some (.slice Aq0 ql.length cq0):=(blk_cell G821.out.box 0).trans rfl
 have hcx1:w21.cell? ⟨b8,1,none⟩ = some (.slice Aq1 qs.length cq1):=(blk_cell G821.out.box 1).trans rfl
 have hcx2:w21.cell? ⟨b8,2,none⟩ = some (.int .i64 qm):=(blk_cell G821.out.box 2).trans rfl
 go_wp2_with fail
 clear hcx0 hcx1 hcx2
 have hheld:Calls Try.prog 27 #[.agg #[.slice Aq0 ql.length cq0, .slice Aq1 qs.length cq1, .int .i64 qm], .int .i64 1] w21 fun e w'=>e = .returned (.int .i64 u) ∧ Below w21.heap.size w21 w':=by
  have h0_:=(Kd.R_reads' G821.out.r0)
  have h1_:=(Kd.R_reads' G821.out.r1)
  rw [EL0.out] at h0_ ⊢
  rw [EL1.out] at h1_ ⊢
  exact laws_heldGroup.calls k _ _ ml _ _ ms qm 1 u w21 h0_.2.2 h0_.2.1 h1_.2.2 h1_.2.1 H9.out
 refine hheld.mono ?_
 rintro e w22 ⟨rfl,hb⟩
 have HB22:=Aside0.mk (below_step HB21.out hb)
 clear hb hheld HB21 G821
 go_wp2
 go_ret
 exact ⟨rfl,HB22.out⟩

end Go.Proofs.Ytheakfegchndcaa.P
