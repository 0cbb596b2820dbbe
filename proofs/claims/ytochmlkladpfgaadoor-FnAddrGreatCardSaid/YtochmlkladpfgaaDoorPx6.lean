-- Written by a program of this session (patch_print.py over the kit's print; given texts in wip/given).
-- Cut down by a program of this session (wip/tools/prune.py) to what its claim can name.
import Derived.Test.YtochmlkladpfgaaDoorPx0
import Derived.Test.YtochmlkladpfgaaDoorPx3
import Derived.Test.YtochmlkladpfgaaDoorPx4
import Derived.Test.YtochmlkladpfgaaDoorPx5
namespace Go.Proofs.YtochmlkladpfgaaDoor.P
open Go.RowKit Go.Proofs.YtochmlkladpfgaaDoorW.PrintWords Go.Proofs.YtochmlkladpfgaaDoorW.PrintLast Go.Proofs.YtochmlkladpfgaaDoorW.PrintMore
attribute [local go_sem] max2_int min2_int max_two min_two max_three min_three max_four min_four   -- for this text's walks alone
set_option linter.unusedVariables false
set_option linter.unusedSimpArgs false
set_option maxHeartbeats 8000000
set_option maxRecDepth 100000

/-! ### impl_readWay: function 43 -/
def impl_readWay.l0:Nat → ByteArray → ByteArray → Bool → List ByteArray → List ByteArray → Int → Int → Option (ByteArray × List ByteArray × Bool × ByteArray × Bool)
 | 0,_,_,_,_,_,_,_=>none
 | k + 1,x0,x9,x10,x12,x35,x36,x37=>if x37 < x36 then (if 0 ≤ x37 then (if x37 < (x35.length:Int) then ((impl_EscNorm.f k (rdOf ByteArray.empty x35 x37)).bind fun bt396=>(if bt396.2 = true then (if x12.length < 8796093022208 then (impl_readWay.l0 k x0 x9 x10 (x12 ++ [bt396.1]) x35 x36 (wrap64 (x37 + 1))) else (none)) else (some ((⟨#[]⟩:ByteArray),([]:List ByteArray),false,(⟨#[]⟩:ByteArray),false)))) else (none)) else (none)) else ((impl_PathClean.f k x12).bind fun t401=>((impl_AddrOk.f k x0 t401 x10 x9).bind fun t405=>(if t405 = true then (some (x0,t401,x10,x9,true)) else (some ((⟨#[]⟩:ByteArray),([]:List ByteArray),false,(⟨#[]⟩:ByteArray),false)))))
def impl_readWay.f (k:Nat) (a0:ByteArray) (l1:List ByteArray) (a2:ByteArray):Option (ByteArray × List ByteArray × Bool × ByteArray × Bool):=(strings_Cut.f a2 (⟨#[63]⟩:ByteArray)).bind fun bt384=>((impl_EscNorm.f k bt384.2.1).bind fun bt387=>(if bt387.2 = true then ((slices_Clone_string_string.f l1).bind fun t389=>((strings_Split.f k bt384.1 (⟨#[47]⟩:ByteArray)).bind fun t392=>(impl_readWay.l0 k a0 bt387.1 bt384.2.2 t389 t392 (t392.length:Int) 0))) else (some ((⟨#[]⟩:ByteArray),([]:List ByteArray),false,(⟨#[]⟩:ByteArray),false))))
theorem impl_readWay.mono_l:∀ k,(∀ y0 y1 y2 y3 y4 y5 y6,LeO (impl_readWay.l0 k y0 y1 y2 y3 y4 y5 y6) (impl_readWay.l0 (k + 1) y0 y1 y2 y3 y4 y5 y6))
 | 0=>fun _ _ _ _ _ _ _ r h=>by simp [impl_readWay.l0] at h
 | k + 1=>by
  have ih0:=impl_readWay.mono_l k
  ·intro y0 y1 y2 y3 y4 y5 y6
   unfold impl_readWay.l0
   repeat' first
   | (with_reducible exact ih0 _ _ _ _ _ _ _)
   | (with_reducible exact impl_AddrOk.mono _ _ _ _ _)
   | (with_reducible exact impl_EscNorm.mono _ _)
   | (with_reducible exact impl_PathClean.mono _ _)
   | (with_reducible exact strings_Split.mono _ _ _)
   | (with_reducible exact LeO.refl _)
   | (with_reducible exact LeO.none _)
   | (with_reducible refine LeO.ite ?_ ?_)
   | (with_reducible refine LeO.bind ?_ (fun _=>?_))
   | exact ih0 _ _ _ _ _ _ _
   | exact impl_AddrOk.mono _ _ _ _ _
   | exact impl_EscNorm.mono _ _
   | exact impl_PathClean.mono _ _
   | exact strings_Split.mono _ _ _
   | exact LeO.none _
   | refine LeO.ite ?_ ?_
   | refine LeO.bind ?_ (fun _=>?_)
theorem impl_readWay.mono:∀ a0 a1 a2 k,LeO (impl_readWay.f k a0 a1 a2) (impl_readWay.f (k + 1) a0 a1 a2):=by
 intro a0 a1 a2 k
 have ih0:=impl_readWay.mono_l k
 unfold impl_readWay.f
 repeat' first
   | (with_reducible exact ih0 _ _ _ _ _ _ _)
   | (with_reducible exact impl_AddrOk.mono _ _ _ _ _)
   | (with_reducible exact impl_EscNorm.mono _ _)
   | (with_reducible exact impl_PathClean.mono _ _)
   | (with_reducible exact strings_Split.mono _ _ _)
   | (with_reducible exact LeO.refl _)
   | (with_reducible exact LeO.none _)
   | (with_reducible refine LeO.ite ?_ ?_)
   | (with_reducible refine LeO.bind ?_ (fun _=>?_))
   | exact ih0 _ _ _ _ _ _ _
   | exact impl_AddrOk.mono _ _ _ _ _
   | exact impl_EscNorm.mono _ _
   | exact impl_PathClean.mono _ _
   | exact strings_Split.mono _ _ _
   | exact LeO.none _
   | refine LeO.ite ?_ ?_
   | refine LeO.bind ?_ (fun _=>?_)
theorem impl_readWay.calls (k:Nat) (a0:ByteArray) (A1:Option Addr) (c1:Nat) (l1:List ByteArray) (a2:ByteArray) (r1:ByteArray) (r2:List ByteArray) (r3:Bool) (r4:ByteArray) (r5:Bool) (w:World) (hr1:Kd.C Kd.string w A1 l1.length l1) (hc1:l1.length ≤ c1) (h:impl_readWay.f k a0 l1 a2 = some (r1,r2,r3,r4,r5)) :
  Calls Tryd.prog 43 #[.string a0, .slice A1 l1.length c1, .string a2] w fun e w'=>∃ v1_:Value,e = .returned (.tuple #[.agg #[.string r1,v1_, .bool r3, .string r4], .bool r5]) ∧ Kd.R Kd.string 9 w' w.heap.size (fun _=>True) v1_ r2 ∧ Below w.heap.size w w':=by
 have hu24:=Tryd.underlying24
 have HR1:=Aside0.mk hr1
 have HC1:=Aside0.mk hc1
 clear hr1 hc1
 have HB:=Aside0.mk (Below.refl w.heap.size w)
 have H:((strings_Cut.f a2 (⟨#[63]⟩:ByteArray)).bind fun bt384=>((impl_EscNorm.f k bt384.2.1).bind fun bt387=>(if bt387.2 = true then ((slices_Clone_string_string.f l1).bind fun t389=>((strings_Split.f k bt384.1 (⟨#[47]⟩:ByteArray)).bind fun t392=>(impl_readWay.l0 k a0 bt387.1 bt384.2.2 t389 t392 (t392.length:Int) 0))) else (some ((⟨#[]⟩:ByteArray),([]:List ByteArray),false,(⟨#[]⟩:ByteArray),false))))) = some (r1,r2,r3,r4,r5):=h
 clear h
 replace H:=Option.bind_eq_some_iff.mp H
 obtain ⟨⟨t384,t385,t386⟩,A40,H⟩:=H
 replace H:((impl_EscNorm.f k t385).bind fun bt387=>(if bt387.2 = true then ((slices_Clone_string_string.f l1).bind fun t389=>((strings_Split.f k t384 (⟨#[47]⟩:ByteArray)).bind fun t392=>(impl_readWay.l0 k a0 bt387.1 t386 t389 t392 (t392.length:Int) 0))) else (some ((⟨#[]⟩:ByteArray),([]:List ByteArray),false,(⟨#[]⟩:ByteArray),false)))) = some (r1,r2,r3,r4,r5):=H
 have A4:=Aside0.mk A40
 clear A40
 replace H:=Option.bind_eq_some_iff.mp H
 obtain ⟨⟨t387,t388⟩,A50,H⟩:=H
 replace H:(if t388 = true then ((slices_Clone_string_string.f l1).bind fun t389=>((strings_Split.f k t384 (⟨#[47]⟩:ByteArray)).bind fun t392=>(impl_readWay.l0 k a0 t387 t386 t389 t392 (t392.length:Int) 0))) else (some ((⟨#[]⟩:ByteArray),([]:List ByteArray),false,(⟨#[]⟩:ByteArray),false))) = some (r1,r2,r3,r4,r5):=H
 have A5:=Aside0.mk A50
 clear A50
 by_cases c6:t388 = true
 ·subst c6
  have H1:((slices_Clone_string_string.f l1).bind fun t389=>((strings_Split.f k t384 (⟨#[47]⟩:ByteArray)).bind fun t392=>(impl_readWay.l0 k a0 t387 t386 t389 t392 (t392.length:Int) 0))) = some (r1,r2,r3,r4,r5):=by rw [if_pos rfl] at H;exact H
  clear H
  have H:=H1
  clear H1
  replace H:=Option.bind_eq_some_iff.mp H
  obtain ⟨t389,A70,H⟩:=H
  replace H:((strings_Split.f k t384 (⟨#[47]⟩:ByteArray)).bind fun t392=>(impl_readWay.l0 k a0 t387 t386 t389 t392 (t392.length:Int) 0)) = some (r1,r2,r3,r4,r5):=H
  have A7:=Aside0.mk A70
  clear A70
  replace H:=Option.bind_eq_some_iff.mp H
  obtain ⟨t392,A80,H⟩:=H
  replace H:(impl_readWay.l0 k a0 t387 t386 t389 t392 (t392.length:Int) 0) = some (r1,r2,r3,r4,r5):=H
  have A8:=Aside0.mk A80
  clear A80
  have H':=Aside0.mk H
  clear H
  go_enter Tryd.func43,Tryd.ntmps43
  go_wp2_with (first|((with_reducible refine gate_dst (N:=6) rfl ?_);refine box_event ?hg (N:=6) ?hd (cs:=#[.string (⟨#[]⟩:ByteArray), .slice none 0 0, .bool false, .string (⟨#[]⟩:ByteArray)]) (t:=24) ?hr ?_;(case hd=>rfl);(case hg=>rfl);(case hr=>first|(go_simp;done)|(go_simp;rfl));intro gb383 hg w9 hbox hb;have n0_:=Aside0.mk (below_step (by repeat (first|(with_reducible first|exact HB.out|apply below_alloc|apply pw_below_drewN|apply below_drew1)|exact HB.out)) hb);have n1_:=Aside0.mk (hbox);have n2_:=Aside0.mk ((by rw [hg];exact (below_size (by repeat (first|(with_reducible first|exact HB.out|apply below_alloc|apply pw_below_drewN|apply below_drew1)|exact HB.out))):w.heap.size ≤ gb383));have n3_:=n2_;clear HB;have HB:=n0_;have BK383:=n1_;have GW383:=n2_;have GE383:=n3_;clear n0_ n1_ n2_ n3_;clear hb hbox hg)|((with_reducible refine gate_callee (f:=21) rfl ?_);refine goesL_ (some 20) rfl rfl Tryd.func21 (by kernel_rfl) rfl #[.string a2, .string (⟨#[63]⟩:ByteArray)] rfl (by (try simp only [List.map_toArray,List.map_cons,List.map_nil]);first|done|rfl|(simp only [List.length_drop,List.length_take];rfl)) ?_;(with_reducible refine (strings_Cut.calls a2 (⟨#[63]⟩:ByteArray) t384 t385 t386 _ A4.out).mono ?_);rintro e w' ⟨rfl,⟨nd,rfl⟩⟩;refine ⟨_,rfl,?_⟩)|((with_reducible refine gate_callee (f:=52) rfl ?_);refine goesL_ (some 26) rfl rfl Tryd.func52 (by kernel_rfl) rfl #[.string t385] rfl (by (try simp only [List.map_toArray,List.map_cons,List.map_nil]);first|done|rfl|(simp only [List.length_drop,List.length_take];rfl)) ?_;(with_reducible refine (impl_EscNorm.calls k t385 t387 true _ A5.out).mono ?_);rintro e w10 ⟨rfl,hb⟩;refine ⟨_,rfl,?_⟩;have n0_:=Aside0.mk (blk_below (g:=gb383) (o:=.cells #[.string (⟨#[]⟩:ByteArray), .slice none 0 0, .bool false, .string (⟨#[]⟩:ByteArray)] 24 (0,0)) (by (with_reducible repeat (first|refine blk_drewN ?_ _|refine blk_drew ?_|refine blk_alloc ?_ _));exact BK383.out) hb);have n1_:=Aside0.mk (below_step (by repeat (first|(with_reducible first|exact HB.out|apply below_alloc|apply pw_below_drewN|apply below_drew1|refine below_set ?_ GE383.out)|exact HB.out)) hb);clear BK383;clear HB;have BK383:=n0_;have HB:=n1_;clear n0_ n1_;(try clear hb);(try clear hb2);(try clear hk);(try clear hi))|((with_reducible refine gate_callee (f:=62) rfl ?_);refine goesL_ (some 33) rfl rfl Tryd.func62 (by kernel_rfl) rfl #[.slice A1 l1.length c1] rfl (by (try simp only [List.map_toArray,List.map_cons,List.map_nil]);first|done|rfl|(simp only [List.length_drop,List.length_take];rfl)) ?_;(with_reducible refine (slices_Clone_string_string.calls _ _ l1 t389 _ ?side1 ?side2 A7.out).mono ?_);(case side1=>repeat (first|exact (Kd.C_below HR1.out HB.out)|(with_reducible refine Kd.C_alloc ?_ _)|(with_reducible refine Kd.C_drewN ?_ _)|(with_reducible refine Kd.C_drew ?_)));(case side2=>exact HC1.out);rintro e w11 ⟨v390,rfl,ho0,hb⟩;refine ⟨_,rfl,?_⟩;have n0_:=Aside0.mk (Kd.R_lower ho0 (below_size (by repeat (first|(with_reducible first|exact HB.out|apply below_alloc|apply pw_below_drewN|apply below_drew1|refine below_set ?_ GE383.out)|exact HB.out))));have n1_:=Aside0.mk (blk_below (g:=gb383) (o:=.cells #[.string (⟨#[]⟩:ByteArray), .slice none 0 0, .bool false, .string (⟨#[]⟩:ByteArray)] 24 (0,0)) (by (with_reducible repeat (first|refine blk_drewN ?_ _|refine blk_drew ?_|refine blk_alloc ?_ _));exact BK383.out) hb);have n2_:=Aside0.mk (below_step (by repeat (first|(with_reducible first|exact HB.out|apply below_alloc|apply pw_below_drewN|apply below_drew1|refine below_set ?_ GE383.out)|exact HB.out)) hb);clear BK383;clear HB;have HO391:=n0_;have BK383:=n1_;have HB:=n2_;clear n0_ n1_ n2_;(try clear hb);(try clear hb2);(try clear hk);(try clear hi);(try clear ho0))|((with_reducible refine gate_callee (f:=63) rfl ?_);refine goesL_ (some 35) rfl rfl Tryd.func63 (by kernel_rfl) rfl #[.string t384, .string (⟨#[47]⟩:ByteArray)] rfl (by (try simp only [List.map_toArray,List.map_cons,List.map_nil]);first|done|rfl|(simp only [List.length_drop,List.length_take];rfl)) ?_;(with_reducible refine (strings_Split.calls k t384 (⟨#[47]⟩:ByteArray) t392 _ A8.out).mono ?_);rintro e w12 ⟨v393,rfl,ho0,hb⟩;refine ⟨_,rfl,?_⟩;have n0_:=Aside0.mk (Kd.R_elder' (by (with_reducible repeat (first|apply Kd.R_alloc|apply Kd.R_drewN|apply Kd.R_drew));exact HO391.out) (Kd.R_base ho0) hb);have n1_:=Aside0.mk (Kd.R_lower (Kd.R_new' ho0 (Kd.R_lt (by (with_reducible repeat (first|apply Kd.R_alloc|apply Kd.R_drewN|apply Kd.R_drew));exact HO391.out))) (below_size (by repeat (first|(with_reducible first|exact HB.out|apply below_alloc|apply pw_below_drewN|apply below_drew1|refine below_set ?_ GE383.out)|exact HB.out))));have n2_:=Aside0.mk (blk_below (g:=gb383) (o:=.cells #[.string (⟨#[]⟩:ByteArray), .slice none 0 0, .bool false, .string (⟨#[]⟩:ByteArray)] 24 (0,0)) (by (with_reducible repeat (first|refine blk_drewN ?_ _|refine blk_drew ?_|refine blk_alloc ?_ _));exact BK383.out) hb);have n3_:=Aside0.mk (below_step (by repeat (first|(with_reducible first|exact HB.out|apply below_alloc|apply pw_below_drewN|apply below_drew1|refine below_set ?_ GE383.out)|exact HB.out)) hb);clear HO391;clear BK383;clear HB;have HO391:=n0_;have HO394:=n1_;have BK383:=n2_;have HB:=n3_;clear n0_ n1_ n2_ n3_;(try clear hb);(try clear hb2);(try clear hk);(try clear hi);(try clear ho0);obtain ⟨Ao13,co13,eo13⟩:=Kd.R_slice HO394.out;subst eo13))
  go_loopg [12,37] k (fun kq v12 v37 w'=>∃ (x12_1:List ByteArray) (x37_1:Int) (x384000_1:ByteArray) (x384002_1:Bool) (x384003_1:ByteArray),v37 = .int .i64 x37_1 ∧ Aside0 (impl_readWay.l0 kq a0 t387 t386 x12_1 t392 (t392.length:Int) x37_1 = some (r1,r2,r3,r4,r5)) ∧ Aside0 (kq ≤ k) ∧ Aside0 (Kd.R Kd.string 9 w' w.heap.size (fun k_=>some k_ ≠ ((.slice Ao13 t392.length co13):Value).ownBlock) v12 x12_1) ∧ Aside0 (Kd.R Kd.string 9 w' w.heap.size (fun k_=>some k_ ≠ (v12:Value).ownBlock) (.slice Ao13 t392.length co13) t392) ∧ Aside0 (w'.heap[gb383]? = some (.cells #[.string x384000_1,(.slice none 0 0), .bool x384002_1, .string x384003_1] 24 (0,0))) ∧ Aside0 (Below w.heap.size w w'))
  case atStart=>exact ⟨(t389),(0),((⟨#[]⟩:ByteArray)),(false),((⟨#[]⟩:ByteArray)),(by first|rfl|(simp;done)|(simp only [i64_w,i32_w];done)|(simp only [i64_w,i32_w];rfl)|(simp [*];done)|(simp [emp_bne,emp_beq];done)),H',⟨Nat.le_refl _⟩,⟨by (with_reducible repeat (first|apply Kd.R_alloc|apply Kd.R_drewN|apply Kd.R_drew));exact Kd.R_mono HO391.out (fun _ hk=>hk.2)⟩,⟨by (with_reducible repeat (first|apply Kd.R_alloc|apply Kd.R_drewN|apply Kd.R_drew));exact Kd.R_mono HO394.out (fun _ hk=>hk.2)⟩,⟨by (with_reducible repeat (first|refine blk_drewN ?_ _|refine blk_drew ?_|refine blk_alloc ?_ _));exact BK383.out⟩,⟨by repeat (first|(with_reducible first|exact HB.out|apply below_alloc|apply pw_below_drewN|apply below_drew1|refine below_set ?_ GE383.out)|exact HB.out)⟩⟩
  case round =>
   clear H'
   try clear c1
   try clear c2
   try clear p2
   try clear c4
   try clear c5
   try clear c6
   obtain ⟨x12_1,x37_1,x384000_1,x384002_1,x384003_1,rfl,HA,HK1,HO_12,HO_35,BK383,HB⟩:=hrel
   cases gk with
   | zero=>exact absurd HA.out (by simp [impl_readWay.l0])
   | succ k1 =>
    have H:=HA.out
    clear HA
    simp only [impl_readWay.l0] at H
    by_cases c14:x37_1 < (t392.length:Int)
    ·rw [if_pos c14] at H
     have c14b0:decide (x37_1 < (t392.length:Int)) = true:=decide_eq_true c14
     clear c14
     by_cases c15:0 ≤ x37_1
     ·rw [if_pos c15] at H
      have c15b0:decide (0 ≤ x37_1) = true:=decide_eq_true c15
      clear c15
      by_cases c16:x37_1 < (t392.length:Int)
      ·rw [if_pos c16] at H
       have c16b0:decide (x37_1 < (t392.length:Int)) = true:=decide_eq_true c16
       clear c16
       replace H:=Option.bind_eq_some_iff.mp H
       obtain ⟨⟨t396,t397⟩,A170,H⟩:=H
       replace H:(if t397 = true then (if x12_1.length < 8796093022208 then (impl_readWay.l0 k1 a0 t387 t386 (x12_1 ++ [t396]) t392 (t392.length:Int) (wrap64 (x37_1 + 1))) else (none)) else (some ((⟨#[]⟩:ByteArray),([]:List ByteArray),false,(⟨#[]⟩:ByteArray),false))) = some (r1,r2,r3,r4,r5):=H
       have A17:=Aside0.mk A170
       clear A170
       by_cases c18:t397 = true
       ·subst c18
        have H1:(if x12_1.length < 8796093022208 then (impl_readWay.l0 k1 a0 t387 t386 (x12_1 ++ [t396]) t392 (t392.length:Int) (wrap64 (x37_1 + 1))) else (none)) = some (r1,r2,r3,r4,r5):=by rw [if_pos rfl] at H;exact H
        clear H
        have H:=H1
        clear H1
        by_cases c19:x12_1.length < 8796093022208
        ·rw [if_pos c19] at H
         have LMc19:=Aside0.mk c19
         clear c19
         obtain ⟨y398,hy398⟩:∃ y_:List ByteArray,y_ = (x12_1 ++ [t396]):=⟨_,rfl⟩
         replace H:(impl_readWay.l0 k1 a0 t387 t386 y398 t392 (t392.length:Int) (wrap64 (x37_1 + 1))) = some (r1,r2,r3,r4,r5):=by first|(rw [hy398];with_reducible exact H)|(have H2_:=(Option.bind_some _ _).symm.trans H;rw [hy398];with_reducible exact H2_)|(have H2_:=(Option.bind_some _ _).symm.trans H;with_reducible exact H2_)|with_reducible exact H|(rw [hy398];exact H)|exact H
         have Ny398:=Aside0.mk hy398
         clear hy398
         have H':=Aside0.mk H
         clear H
         have p395:0 ≤ (x37_1:Int):=of_decide_eq_true (by first|(with_reducible assumption)|assumption)
         have q395:x37_1 < (t392.length:Int):=of_decide_eq_true (by first|(with_reducible assumption)|assumption)
         obtain ⟨ad395,e395,hx395_0⟩:=Kd.at_string (Kd.R_reads' HO_35.out).2.2 x37_1 p395 q395
         cases e395
         replace p395:=eq_true p395
         replace q395:=eq_true q395
         go_wp2_with (first|((with_reducible refine gate_callee (f:=52) rfl ?_);refine goesL_ (some 43) rfl rfl Tryd.func52 (by kernel_rfl) rfl #[.string (rdOf ByteArray.empty t392 x37_1)] rfl (by (try simp only [List.map_toArray,List.map_cons,List.map_nil]);first|done|rfl|(simp only [List.length_drop,List.length_take];rfl)) ?_;(with_reducible refine (impl_EscNorm.calls k1 (rdOf ByteArray.empty t392 x37_1) t396 true _ A17.out).mono ?_);rintro e w20 ⟨rfl,hb⟩;refine ⟨_,rfl,?_⟩;have n0_:=Aside0.mk (Kd.R_below (by (with_reducible repeat (first|apply Kd.R_alloc|apply Kd.R_drewN|apply Kd.R_drew));exact HO_12.out) hb);have n1_:=Aside0.mk (Kd.R_below (by (with_reducible repeat (first|apply Kd.R_alloc|apply Kd.R_drewN|apply Kd.R_drew));exact HO_35.out) hb);have n2_:=Aside0.mk (blk_below (g:=gb383) (o:=.cells #[.string x384000_1, .slice none 0 0, .bool x384002_1, .string x384003_1] 24 (0,0)) (by (with_reducible repeat (first|refine blk_drewN ?_ _|refine blk_drew ?_|refine blk_alloc ?_ _));exact BK383.out) hb);have n3_:=Aside0.mk (below_step (by repeat (first|(with_reducible first|exact HB.out|apply below_alloc|apply pw_below_drewN|apply below_drew1|refine below_set ?_ GE383.out)|exact HB.out)) hb);clear HO_12;clear HO_35;clear BK383;clear HB;have HO_12:=n0_;have HO_35:=n1_;have BK383:=n2_;have HB:=n3_;clear n0_ n1_ n2_ n3_;(try clear hb);(try clear hb2);(try clear hk);(try clear hi))|((with_reducible refine gate_builtin (b:=.append) (xs:=#[.tmp 49, .tmp 51]) rfl ?_);at_builtin;refine Kd.R_append Kd.string (w0:=w) w.heap.size rfl (.tmp 49) (.tmp 51) 22 9 (.string ⟨#[]⟩) 16 rfl Tryd.underlying22 info9 rfl (by decide) (by omega) u12 x12_1 t396 [.string t396] (fun k_=>some k_ ≠ (.slice (some ad395) t392.length co13:Value).ownBlock) (fun _=>False) rfl rfl ?aP (fun _ hk=>hk.elim) ?aF ?aO ?aB ?aS ?aL ?_;(case aP=>exact rfl);(case aB=>exact (by repeat (first|(with_reducible first|exact HB.out|apply below_alloc|apply pw_below_drewN|apply below_drew1|refine below_set ?_ GE383.out)|exact HB.out)));(case aF=>exact (fun k_ hk=>Kd.fresh' (Kd.R_lt (by (with_reducible repeat (first|apply Kd.R_alloc|apply Kd.R_drewN|apply Kd.R_drew));exact HO_35.out)) k_ hk));(case aO=>exact (by (with_reducible repeat (first|apply Kd.R_alloc|apply Kd.R_drewN|apply Kd.R_drew));exact HO_12.out));(case aS=>exact (below_size (by repeat (first|(with_reducible first|exact HB.out|apply below_alloc|apply pw_below_drewN|apply below_drew1|refine below_set ?_ GE383.out)|exact HB.out))));(case aL=>have:=LMc19.out;omega);intro v399 w21 ho hb hg hat;rw [← Ny398.out] at ho;have n0_:=Aside0.mk (Kd.R_after (ok:=(fun _=>True)) (by (with_reducible repeat (first|apply Kd.R_alloc|apply Kd.R_drewN|apply Kd.R_drew));exact Kd.R_mono HO_35.out (fun _ hk=>⟨trivial,hk⟩)) hg hat);have n1_:=Aside0.mk (blk_grown (g:=gb383) (o:=.cells #[.string x384000_1, .slice none 0 0, .bool x384002_1, .string x384003_1] 24 (0,0)) (by (with_reducible repeat (first|refine blk_drewN ?_ _|refine blk_drew ?_|refine blk_alloc ?_ _));exact BK383.out) hg (Kd.R_ne HO_12.out BK383.out (by decide)));have n2_:=Aside0.mk (hb);have n3_:=Aside0.mk (ho);clear HO_35;clear BK383;clear HB;clear HO_12;have HO_35:=n0_;have BK383:=n1_;have HB:=n2_;have HO400:=n3_;clear n0_ n1_ n2_ n3_;clear ho hb hg hat))
         go_roundg k1
         case measure=>have:=HK1.out;omega
         case rel=>exact ⟨(y398),(wrap64 (x37_1 + 1)),(x384000_1),(x384002_1),(x384003_1),(by first|rfl|(simp;done)|(simp only [i64_w,i32_w];done)|(simp only [i64_w,i32_w];rfl)|(simp [*];done)|(simp [emp_bne,emp_beq];done)),H',⟨by have:=HK1.out;omega⟩,⟨by (with_reducible repeat (first|apply Kd.R_alloc|apply Kd.R_drewN|apply Kd.R_drew));exact HO400.out⟩,⟨by (with_reducible repeat (first|apply Kd.R_alloc|apply Kd.R_drewN|apply Kd.R_drew));exact Kd.R_mono HO_35.out (fun _ hk=>hk.2)⟩,⟨by (with_reducible repeat (first|refine blk_drewN ?_ _|refine blk_drew ?_|refine blk_alloc ?_ _));exact BK383.out⟩,⟨by repeat (first|(with_reducible first|exact HB.out|apply below_alloc|apply pw_below_drewN|apply below_drew1|refine below_set ?_ GE383.out)|exact HB.out)⟩⟩
        ·rw [if_neg c19] at H
         exact absurd H (by simp)
       ·replace c18:=Bool.eq_false_iff.mpr c18
        subst c18
        have H1:(some ((⟨#[]⟩:ByteArray),([]:List ByteArray),false,(⟨#[]⟩:ByteArray),false)) = some (r1,r2,r3,r4,r5):=by rw [if_neg (show ¬ (false = true) by decide)] at H;exact H
        clear H
        have H:=H1
        clear H1
        simp only [Option.some.injEq,Prod.mk.injEq] at H
        obtain ⟨rfl,rfl,rfl,rfl,rfl⟩:=H
        have p395:0 ≤ (x37_1:Int):=of_decide_eq_true (by first|(with_reducible assumption)|assumption)
        have q395:x37_1 < (t392.length:Int):=of_decide_eq_true (by first|(with_reducible assumption)|assumption)
        obtain ⟨ad395,e395,hx395_0⟩:=Kd.at_string (Kd.R_reads' HO_35.out).2.2 x37_1 p395 q395
        cases e395
        replace p395:=eq_true p395
        replace q395:=eq_true q395
        go_wp2_with (first|((with_reducible refine gate_callee (f:=52) rfl ?_);refine goesL_ (some 43) rfl rfl Tryd.func52 (by kernel_rfl) rfl #[.string (rdOf ByteArray.empty t392 x37_1)] rfl (by (try simp only [List.map_toArray,List.map_cons,List.map_nil]);first|done|rfl|(simp only [List.length_drop,List.length_take];rfl)) ?_;(with_reducible refine (impl_EscNorm.calls k1 (rdOf ByteArray.empty t392 x37_1) t396 false _ A17.out).mono ?_);rintro e w22 ⟨rfl,hb⟩;refine ⟨_,rfl,?_⟩;have n0_:=Aside0.mk (Kd.R_below (by (with_reducible repeat (first|apply Kd.R_alloc|apply Kd.R_drewN|apply Kd.R_drew));exact HO_12.out) hb);have n1_:=Aside0.mk (Kd.R_below (by (with_reducible repeat (first|apply Kd.R_alloc|apply Kd.R_drewN|apply Kd.R_drew));exact HO_35.out) hb);have n2_:=Aside0.mk (blk_below (g:=gb383) (o:=.cells #[.string x384000_1, .slice none 0 0, .bool x384002_1, .string x384003_1] 24 (0,0)) (by (with_reducible repeat (first|refine blk_drewN ?_ _|refine blk_drew ?_|refine blk_alloc ?_ _));exact BK383.out) hb);have n3_:=Aside0.mk (below_step (by repeat (first|(with_reducible first|exact HB.out|apply below_alloc|apply pw_below_drewN|apply below_drew1|refine below_set ?_ GE383.out)|exact HB.out)) hb);clear HO_12;clear HO_35;clear BK383;clear HB;have HO_12:=n0_;have HO_35:=n1_;have BK383:=n2_;have HB:=n3_;clear n0_ n1_ n2_ n3_;(try clear hb);(try clear hb2);(try clear hk);(try clear hi);have hcz23_0:w22.cell? ⟨gb383,0,none⟩ = some (.string x384000_1):=(blk_cell BK383.out 0).trans rfl;have hcz23_1:w22.cell? ⟨gb383,1,none⟩ = some (.slice none 0 0):=(blk_cell BK383.out 1).trans rfl;have hcz23_2:w22.cell? ⟨gb383,2,none⟩ = some (.bool x384002_1):=(blk_cell BK383.out 2).trans rfl;have hcz23_3:w22.cell? ⟨gb383,3,none⟩ = some (.string x384003_1):=(blk_cell BK383.out 3).trans rfl;have hfz23_0:=blk_frozen BK383.out 0;have hfz23_1:=blk_frozen BK383.out 1;have hfz23_2:=blk_frozen BK383.out 2;have hfz23_3:=blk_frozen BK383.out 3))
        refine bodyPost_ret (results_ct rfl _ _ gb383 24 #[.string (⟨#[]⟩:ByteArray), .slice none 0 0, .bool false, .string (⟨#[]⟩:ByteArray)] (0,0) _ rfl (by (with_reducible repeat (first|refine blk_drewN ?_ _|refine blk_drew ?_|refine blk_alloc ?_ _));refine blk_put (cs:=#[.string (⟨#[]⟩:ByteArray), .slice none 0 0, .bool false, .string x384003_1]) ?_ 3 _ rfl;(with_reducible repeat (first|refine blk_drewN ?_ _|refine blk_drew ?_|refine blk_alloc ?_ _));refine blk_put (cs:=#[.string (⟨#[]⟩:ByteArray), .slice none 0 0, .bool x384002_1, .string x384003_1]) ?_ 2 _ rfl;(with_reducible repeat (first|refine blk_drewN ?_ _|refine blk_drew ?_|refine blk_alloc ?_ _));refine blk_put (cs:=#[.string (⟨#[]⟩:ByteArray), .slice none 0 0, .bool x384002_1, .string x384003_1]) ?_ 1 _ rfl;(with_reducible repeat (first|refine blk_drewN ?_ _|refine blk_drew ?_|refine blk_alloc ?_ _));refine blk_put (cs:=#[.string x384000_1, .slice none 0 0, .bool x384002_1, .string x384003_1]) ?_ 0 _ rfl;(with_reducible repeat (first|refine blk_drewN ?_ _|refine blk_drew ?_|refine blk_alloc ?_ _));exact BK383.out) Tryd.underlying24 rfl (by kernel_rfl)) rfl ?_
        exact ⟨_,by first|rfl|(simp <;> rfl)|(simp [*] <;> rfl),by first|exact Kd.R_nil _ _ _ _ _|exact Kd.N_nil _ _ _ _ _|exact Kd.V_nil _ _ _ _ _|exact Kd.Q_nil _ _ _ _ _|exact Kd.S_nil _ _ _ _ _,by repeat (first|(with_reducible first|exact HB.out|apply below_alloc|apply pw_below_drewN|apply below_drew1|refine below_set ?_ GE383.out)|exact HB.out)⟩
      ·rw [if_neg c16] at H
       exact absurd H (by simp)
     ·rw [if_neg c15] at H
      exact absurd H (by simp)
    ·rw [if_neg c14] at H
     have c14b0:decide (x37_1 < (t392.length:Int)) = false:=decide_eq_false c14
     clear c14
     replace H:=Option.bind_eq_some_iff.mp H
     obtain ⟨t401,A240,H⟩:=H
     replace H:((impl_AddrOk.f k1 a0 t401 t386 t387).bind fun t405=>(if t405 = true then (some (a0,t401,t386,t387,true)) else (some ((⟨#[]⟩:ByteArray),([]:List ByteArray),false,(⟨#[]⟩:ByteArray),false)))) = some (r1,r2,r3,r4,r5):=H
     have A24:=Aside0.mk A240
     clear A240
     replace H:=Option.bind_eq_some_iff.mp H
     obtain ⟨t405,A250,H⟩:=H
     replace H:(if t405 = true then (some (a0,t401,t386,t387,true)) else (some ((⟨#[]⟩:ByteArray),([]:List ByteArray),false,(⟨#[]⟩:ByteArray),false))) = some (r1,r2,r3,r4,r5):=H
     have A25:=Aside0.mk A250
     clear A250
     by_cases c26:t405 = true
     ·subst c26
      have H1:(some (a0,t401,t386,t387,true)) = some (r1,r2,r3,r4,r5):=by rw [if_pos rfl] at H;exact H
      clear H
      have H:=H1
      clear H1
      simp only [Option.some.injEq,Prod.mk.injEq] at H
      obtain ⟨rfl,rfl,rfl,rfl,rfl⟩:=H
      obtain ⟨Ao27,co27,eo27⟩:=Kd.R_slice HO_12.out
      subst eo27
      go_wp2_with (first|((with_reducible refine gate_callee (f:=64) rfl ?_);refine goesL_ (some 56) rfl rfl Tryd.func64 (by kernel_rfl) rfl #[.slice Ao27 x12_1.length co27] rfl (by (try simp only [List.map_toArray,List.map_cons,List.map_nil]);first|done|rfl|(simp only [List.length_drop,List.length_take];rfl)) ?_;(with_reducible refine (impl_PathClean.calls k1 _ _ x12_1 t401 _ ?side1 ?side2 A24.out).mono ?_);(case side1=>repeat (first|exact (Kd.R_reads' HO_12.out).2.2|(with_reducible refine Kd.C_alloc ?_ _)|(with_reducible refine Kd.C_drewN ?_ _)|(with_reducible refine Kd.C_drew ?_)));(case side2=>exact (Kd.R_reads' HO_12.out).2.1);rintro e w28 ⟨v402,rfl,ho0,hb⟩;refine ⟨_,rfl,?_⟩;have n0_:=Aside0.mk (Kd.R_elder' (by (with_reducible repeat (first|apply Kd.R_alloc|apply Kd.R_drewN|apply Kd.R_drew));exact HO_12.out) (Kd.R_base ho0) hb);have n1_:=Aside0.mk (Kd.R_elder' (by (with_reducible repeat (first|apply Kd.R_alloc|apply Kd.R_drewN|apply Kd.R_drew));exact HO_35.out) (Kd.R_base ho0) hb);have n2_:=Aside0.mk (Kd.R_lower (Kd.R_new' (Kd.R_new' ho0 (Kd.R_lt (by (with_reducible repeat (first|apply Kd.R_alloc|apply Kd.R_drewN|apply Kd.R_drew));exact HO_12.out))) (Kd.R_lt (by (with_reducible repeat (first|apply Kd.R_alloc|apply Kd.R_drewN|apply Kd.R_drew));exact HO_35.out))) (below_size (by repeat (first|(with_reducible first|exact HB.out|apply below_alloc|apply pw_below_drewN|apply below_drew1|refine below_set ?_ GE383.out)|exact HB.out))));have n3_:=Aside0.mk (blk_below (g:=gb383) (o:=.cells #[.string x384000_1, .slice none 0 0, .bool x384002_1, .string x384003_1] 24 (0,0)) (by (with_reducible repeat (first|refine blk_drewN ?_ _|refine blk_drew ?_|refine blk_alloc ?_ _));exact BK383.out) hb);have n4_:=Aside0.mk (below_step (by repeat (first|(with_reducible first|exact HB.out|apply below_alloc|apply pw_below_drewN|apply below_drew1|refine below_set ?_ GE383.out)|exact HB.out)) hb);clear HO_12;clear HO_35;clear BK383;clear HB;have HO_12:=n0_;have HO_35:=n1_;have HO403:=n2_;have BK383:=n3_;have HB:=n4_;clear n0_ n1_ n2_ n3_ n4_;(try clear hb);(try clear hb2);(try clear hk);(try clear hi);(try clear ho0);obtain ⟨Ao29,co29,eo29⟩:=Kd.R_slice HO403.out;subst eo29)|((with_reducible refine gate_dst (N:=17) rfl ?_);refine box_event ?hg (N:=17) ?hd (cs:=#[.string (⟨#[]⟩:ByteArray), .slice none 0 0, .bool false, .string (⟨#[]⟩:ByteArray)]) (t:=24) ?hr ?_;(case hd=>rfl);(case hg=>rfl);(case hr=>first|(go_simp;done)|(go_simp;rfl));intro gb404 hg w30 hbox hb;have n0_:=Aside0.mk (Kd.R_below (by (with_reducible repeat (first|apply Kd.R_alloc|apply Kd.R_drewN|apply Kd.R_drew));exact HO_12.out) hb);have n1_:=Aside0.mk (Kd.R_below (by (with_reducible repeat (first|apply Kd.R_alloc|apply Kd.R_drewN|apply Kd.R_drew));exact HO_35.out) hb);have n2_:=Aside0.mk (Kd.R_below (by (with_reducible repeat (first|apply Kd.R_alloc|apply Kd.R_drewN|apply Kd.R_drew));exact HO403.out) hb);have n3_:=Aside0.mk (blk_below (g:=gb383) (o:=.cells #[.string x384000_1, .slice none 0 0, .bool x384002_1, .string x384003_1] 24 (0,0)) (by (with_reducible repeat (first|refine blk_drewN ?_ _|refine blk_drew ?_|refine blk_alloc ?_ _));exact BK383.out) hb);have n4_:=Aside0.mk (below_step (by repeat (first|(with_reducible first|exact HB.out|apply below_alloc|apply pw_below_drewN|apply below_drew1|refine below_set ?_ GE383.out)|exact HB.out)) hb);have n5_:=Aside0.mk (hbox);have n6_:=Aside0.mk ((by rw [hg];exact (below_size (by repeat (first|(with_reducible first|exact HB.out|apply below_alloc|apply pw_below_drewN|apply below_drew1|refine below_set ?_ GE383.out)|exact HB.out))):w.heap.size ≤ gb404));have n7_:=n6_;have n8_:=Aside0.mk ((by rw [hg];exact Nat.ne_of_lt (blk_lt (g:=gb383) (o:=.cells #[.string x384000_1, .slice none 0 0, .bool x384002_1, .string x384003_1] 24 (0,0)) (by (with_reducible repeat (first|refine blk_drewN ?_ _|refine blk_drew ?_|refine blk_alloc ?_ _));exact BK383.out)):gb383 ≠ gb404));have n9_:=Aside0.mk ((by rw [hg];exact Nat.ne_of_gt (blk_lt (g:=gb383) (o:=.cells #[.string x384000_1, .slice none 0 0, .bool x384002_1, .string x384003_1] 24 (0,0)) (by (with_reducible repeat (first|refine blk_drewN ?_ _|refine blk_drew ?_|refine blk_alloc ?_ _));exact BK383.out)):gb404 ≠ gb383));clear HO_12;clear HO_35;clear HO403;clear BK383;clear HB;have HO_12:=n0_;have HO_35:=n1_;have HO403:=n2_;have BK383:=n3_;have HB:=n4_;have BK404:=n5_;have GW404:=n6_;have GE404:=n7_;have NB383_404:=n8_;have NB404_383:=n9_;clear n0_ n1_ n2_ n3_ n4_ n5_ n6_ n7_ n8_ n9_;clear hb hbox hg;have hnb31:=NB404_383.out;have hnc31:=NB383_404.out;have hcz32_0:w30.cell? ⟨gb404,0,none⟩ = some (.string (⟨#[]⟩:ByteArray)):=(blk_cell BK404.out 0).trans rfl;have hcz32_1:w30.cell? ⟨gb404,1,none⟩ = some (.slice none 0 0):=(blk_cell BK404.out 1).trans rfl;have hcz32_2:w30.cell? ⟨gb404,2,none⟩ = some (.bool false):=(blk_cell BK404.out 2).trans rfl;have hcz32_3:w30.cell? ⟨gb404,3,none⟩ = some (.string (⟨#[]⟩:ByteArray)):=(blk_cell BK404.out 3).trans rfl;have hfz32_0:=blk_frozen BK404.out 0;have hfz32_1:=blk_frozen BK404.out 1;have hfz32_2:=blk_frozen BK404.out 2;have hfz32_3:=blk_frozen BK404.out 3)|((with_reducible refine gate_callee (f:=18) rfl ?_);refine goesL_ (some 61) rfl rfl Tryd.func18 (by kernel_rfl) rfl #[.agg #[.string a0, .slice Ao29 t401.length co29, .bool t386, .string t387]] rfl (by (try simp only [List.map_toArray,List.map_cons,List.map_nil]);first|done|rfl|(simp only [List.length_drop,List.length_take];rfl)) ?_;(with_reducible refine (impl_AddrOk.calls k1 a0 _ _ t401 t386 t387 true _ ?side1 ?side2 A25.out).mono ?_);(case side1=>refine (Kd.R_reads' (e:=9) (base:=w.heap.size) (ok:=fun k_=>((True ∧ some k_ ≠ (.slice Ao27 x12_1.length co27:Value).ownBlock) ∧ some k_ ≠ (.slice Ao13 t392.length co13:Value).ownBlock)) (n:=t401.length) (c:=co29) ?_).2.2;exact (by (with_reducible repeat (first|apply Kd.R_alloc|apply Kd.R_drewN|apply Kd.R_drew));exact (Kd.R_mono (Kd.R_far (p:=⟨gb404,3,none⟩) (Kd.R_far (p:=⟨gb404,2,none⟩) (Kd.R_far (p:=⟨gb404,1,none⟩) (Kd.R_far (p:=⟨gb404,0,none⟩) (Kd.R_types HO403.out BK404.out (by decide)) (fun _ hk=>hk.2) (.string a0)) (fun _ hk=>hk.2) (.slice Ao29 t401.length co29)) (fun _ hk=>hk.2) (.bool t386)) (fun _ hk=>hk.2) (.string t387)) (fun _ h_=>h_.1))));(case side2=>exact (Kd.R_reads' HO403.out).2.1);rintro e w33 ⟨rfl,hb⟩;refine ⟨_,rfl,?_⟩;have n0_:=Aside0.mk (Kd.R_below (by (with_reducible repeat (first|apply Kd.R_alloc|apply Kd.R_drewN|apply Kd.R_drew));exact (Kd.R_mono (Kd.R_far (p:=⟨gb404,3,none⟩) (Kd.R_far (p:=⟨gb404,2,none⟩) (Kd.R_far (p:=⟨gb404,1,none⟩) (Kd.R_far (p:=⟨gb404,0,none⟩) (Kd.R_types HO_12.out BK404.out (by decide)) (fun _ hk=>hk.2) (.string a0)) (fun _ hk=>hk.2) (.slice Ao29 t401.length co29)) (fun _ hk=>hk.2) (.bool t386)) (fun _ hk=>hk.2) (.string t387)) (fun _ h_=>h_.1))) hb);have n1_:=Aside0.mk (Kd.R_below (by (with_reducible repeat (first|apply Kd.R_alloc|apply Kd.R_drewN|apply Kd.R_drew));exact (Kd.R_mono (Kd.R_far (p:=⟨gb404,3,none⟩) (Kd.R_far (p:=⟨gb404,2,none⟩) (Kd.R_far (p:=⟨gb404,1,none⟩) (Kd.R_far (p:=⟨gb404,0,none⟩) (Kd.R_types HO_35.out BK404.out (by decide)) (fun _ hk=>hk.2) (.string a0)) (fun _ hk=>hk.2) (.slice Ao29 t401.length co29)) (fun _ hk=>hk.2) (.bool t386)) (fun _ hk=>hk.2) (.string t387)) (fun _ h_=>h_.1))) hb);have n2_:=Aside0.mk (Kd.R_below (by (with_reducible repeat (first|apply Kd.R_alloc|apply Kd.R_drewN|apply Kd.R_drew));exact (Kd.R_mono (Kd.R_far (p:=⟨gb404,3,none⟩) (Kd.R_far (p:=⟨gb404,2,none⟩) (Kd.R_far (p:=⟨gb404,1,none⟩) (Kd.R_far (p:=⟨gb404,0,none⟩) (Kd.R_types HO403.out BK404.out (by decide)) (fun _ hk=>hk.2) (.string a0)) (fun _ hk=>hk.2) (.slice Ao29 t401.length co29)) (fun _ hk=>hk.2) (.bool t386)) (fun _ hk=>hk.2) (.string t387)) (fun _ h_=>h_.1))) hb);have n3_:=Aside0.mk (blk_below (g:=gb383) (o:=.cells #[.string x384000_1, .slice none 0 0, .bool x384002_1, .string x384003_1] 24 (0,0)) (by (with_reducible repeat (first|refine blk_drewN ?_ _|refine blk_drew ?_|refine blk_alloc ?_ _));refine blk_far ?_ NB383_404.out _;(with_reducible repeat (first|refine blk_drewN ?_ _|refine blk_drew ?_|refine blk_alloc ?_ _));refine blk_far ?_ NB383_404.out _;(with_reducible repeat (first|refine blk_drewN ?_ _|refine blk_drew ?_|refine blk_alloc ?_ _));refine blk_far ?_ NB383_404.out _;(with_reducible repeat (first|refine blk_drewN ?_ _|refine blk_drew ?_|refine blk_alloc ?_ _));refine blk_far ?_ NB383_404.out _;(with_reducible repeat (first|refine blk_drewN ?_ _|refine blk_drew ?_|refine blk_alloc ?_ _));exact BK383.out) hb);have n4_:=Aside0.mk (blk_below (g:=gb404) (o:=.cells #[.string a0, .slice Ao29 t401.length co29, .bool t386, .string t387] 24 (0,0)) (by (with_reducible repeat (first|refine blk_drewN ?_ _|refine blk_drew ?_|refine blk_alloc ?_ _));refine blk_put (cs:=#[.string a0, .slice Ao29 t401.length co29, .bool t386, .string (⟨#[]⟩:ByteArray)]) ?_ 3 _ rfl;(with_reducible repeat (first|refine blk_drewN ?_ _|refine blk_drew ?_|refine blk_alloc ?_ _));refine blk_put (cs:=#[.string a0, .slice Ao29 t401.length co29, .bool false, .string (⟨#[]⟩:ByteArray)]) ?_ 2 _ rfl;(with_reducible repeat (first|refine blk_drewN ?_ _|refine blk_drew ?_|refine blk_alloc ?_ _));refine blk_put (cs:=#[.string a0, .slice none 0 0, .bool false, .string (⟨#[]⟩:ByteArray)]) ?_ 1 _ rfl;(with_reducible repeat (first|refine blk_drewN ?_ _|refine blk_drew ?_|refine blk_alloc ?_ _));refine blk_put (cs:=#[.string (⟨#[]⟩:ByteArray), .slice none 0 0, .bool false, .string (⟨#[]⟩:ByteArray)]) ?_ 0 _ rfl;(with_reducible repeat (first|refine blk_drewN ?_ _|refine blk_drew ?_|refine blk_alloc ?_ _));exact BK404.out) hb);have n5_:=Aside0.mk (below_step (by repeat (first|(with_reducible first|exact HB.out|apply below_alloc|apply pw_below_drewN|apply below_drew1|refine below_set ?_ GE383.out|refine below_set ?_ GE404.out)|exact HB.out)) hb);clear HO_12;clear HO_35;clear HO403;clear BK383;clear BK404;clear HB;have HO_12:=n0_;have HO_35:=n1_;have HO403:=n2_;have BK383:=n3_;have BK404:=n4_;have HB:=n5_;clear n0_ n1_ n2_ n3_ n4_ n5_;(try clear hb);(try clear hb2);(try clear hk);(try clear hi);have hcz34_0:w33.cell? ⟨gb404,0,none⟩ = some (.string a0):=(blk_cell BK404.out 0).trans rfl;have hcz34_1:w33.cell? ⟨gb404,1,none⟩ = some (.slice Ao29 t401.length co29):=(blk_cell BK404.out 1).trans rfl;have hcz34_2:w33.cell? ⟨gb404,2,none⟩ = some (.bool t386):=(blk_cell BK404.out 2).trans rfl;have hcz34_3:w33.cell? ⟨gb404,3,none⟩ = some (.string t387):=(blk_cell BK404.out 3).trans rfl;have hfz34_0:=blk_frozen BK404.out 0;have hfz34_1:=blk_frozen BK404.out 1;have hfz34_2:=blk_frozen BK404.out 2;have hfz34_3:=blk_frozen BK404.out 3;have hcz35_0:w33.cell? ⟨gb383,0,none⟩ = some (.string x384000_1):=(blk_cell BK383.out 0).trans rfl;have hcz35_1:w33.cell? ⟨gb383,1,none⟩ = some (.slice none 0 0):=(blk_cell BK383.out 1).trans rfl;have hcz35_2:w33.cell? ⟨gb383,2,none⟩ = some (.bool x384002_1):=(blk_cell BK383.out 2).trans rfl;have hcz35_3:w33.cell? ⟨gb383,3,none⟩ = some (.string x384003_1):=(blk_cell BK383.out 3).trans rfl;have hfz35_0:=blk_frozen BK383.out 0;have hfz35_1:=blk_frozen BK383.out 1;have hfz35_2:=blk_frozen BK383.out 2;have hfz35_3:=blk_frozen BK383.out 3))
      refine bodyPost_ret (results_ct rfl _ _ gb383 24 #[.string a0, .slice Ao29 t401.length co29, .bool t386, .string t387] (0,0) _ rfl (by (with_reducible repeat (first|refine blk_drewN ?_ _|refine blk_drew ?_|refine blk_alloc ?_ _));refine blk_put (cs:=#[.string a0, .slice Ao29 t401.length co29, .bool t386, .string x384003_1]) ?_ 3 _ rfl;(with_reducible repeat (first|refine blk_drewN ?_ _|refine blk_drew ?_|refine blk_alloc ?_ _));refine blk_put (cs:=#[.string a0, .slice Ao29 t401.length co29, .bool x384002_1, .string x384003_1]) ?_ 2 _ rfl;(with_reducible repeat (first|refine blk_drewN ?_ _|refine blk_drew ?_|refine blk_alloc ?_ _));refine blk_put (cs:=#[.string a0, .slice none 0 0, .bool x384002_1, .string x384003_1]) ?_ 1 _ rfl;(with_reducible repeat (first|refine blk_drewN ?_ _|refine blk_drew ?_|refine blk_alloc ?_ _));refine blk_put (cs:=#[.string x384000_1, .slice none 0 0, .bool x384002_1, .string x384003_1]) ?_ 0 _ rfl;(with_reducible repeat (first|refine blk_drewN ?_ _|refine blk_drew ?_|refine blk_alloc ?_ _));exact BK383.out) Tryd.underlying24 rfl (by kernel_rfl)) rfl ?_
      exact ⟨_,by first|rfl|(simp <;> rfl)|(simp [*] <;> rfl),by (with_reducible repeat (first|apply Kd.R_alloc|apply Kd.R_drewN|apply Kd.R_drew));exact Kd.R_mono (Kd.R_far (p:=⟨gb383,3,none⟩) (Kd.R_far (p:=⟨gb383,2,none⟩) (Kd.R_far (p:=⟨gb383,1,none⟩) (Kd.R_far (p:=⟨gb383,0,none⟩) (Kd.R_types HO403.out BK383.out (by decide)) (fun _ hk=>hk.2) (.string a0)) (fun _ hk=>hk.2) (.slice Ao29 t401.length co29)) (fun _ hk=>hk.2) (.bool t386)) (fun _ hk=>hk.2) (.string t387)) (fun _ hk=>trivial),by repeat (first|(with_reducible first|exact HB.out|apply below_alloc|apply pw_below_drewN|apply below_drew1|refine below_set ?_ GE383.out|refine below_set ?_ GE404.out)|exact HB.out)⟩
     ·replace c26:=Bool.eq_false_iff.mpr c26
      subst c26
      have H1:(some ((⟨#[]⟩:ByteArray),([]:List ByteArray),false,(⟨#[]⟩:ByteArray),false)) = some (r1,r2,r3,r4,r5):=by rw [if_neg (show ¬ (false = true) by decide)] at H;exact H
      clear H
      have H:=H1
      clear H1
      simp only [Option.some.injEq,Prod.mk.injEq] at H
      obtain ⟨rfl,rfl,rfl,rfl,rfl⟩:=H
      obtain ⟨Ao36,co36,eo36⟩:=Kd.R_slice HO_12.out
      subst eo36
      go_wp2_with (first|((with_reducible refine gate_callee (f:=64) rfl ?_);refine goesL_ (some 56) rfl rfl Tryd.func64 (by kernel_rfl) rfl #[.slice Ao36 x12_1.length co36] rfl (by (try simp only [List.map_toArray,List.map_cons,List.map_nil]);first|done|rfl|(simp only [List.length_drop,List.length_take];rfl)) ?_;(with_reducible refine (impl_PathClean.calls k1 _ _ x12_1 t401 _ ?side1 ?side2 A24.out).mono ?_);(case side1=>repeat (first|exact (Kd.R_reads' HO_12.out).2.2|(with_reducible refine Kd.C_alloc ?_ _)|(with_reducible refine Kd.C_drewN ?_ _)|(with_reducible refine Kd.C_drew ?_)));(case side2=>exact (Kd.R_reads' HO_12.out).2.1);rintro e w37 ⟨v402,rfl,ho0,hb⟩;refine ⟨_,rfl,?_⟩;have n0_:=Aside0.mk (Kd.R_elder' (by (with_reducible repeat (first|apply Kd.R_alloc|apply Kd.R_drewN|apply Kd.R_drew));exact HO_12.out) (Kd.R_base ho0) hb);have n1_:=Aside0.mk (Kd.R_elder' (by (with_reducible repeat (first|apply Kd.R_alloc|apply Kd.R_drewN|apply Kd.R_drew));exact HO_35.out) (Kd.R_base ho0) hb);have n2_:=Aside0.mk (Kd.R_lower (Kd.R_new' (Kd.R_new' ho0 (Kd.R_lt (by (with_reducible repeat (first|apply Kd.R_alloc|apply Kd.R_drewN|apply Kd.R_drew));exact HO_12.out))) (Kd.R_lt (by (with_reducible repeat (first|apply Kd.R_alloc|apply Kd.R_drewN|apply Kd.R_drew));exact HO_35.out))) (below_size (by repeat (first|(with_reducible first|exact HB.out|apply below_alloc|apply pw_below_drewN|apply below_drew1|refine below_set ?_ GE383.out)|exact HB.out))));have n3_:=Aside0.mk (blk_below (g:=gb383) (o:=.cells #[.string x384000_1, .slice none 0 0, .bool x384002_1, .string x384003_1] 24 (0,0)) (by (with_reducible repeat (first|refine blk_drewN ?_ _|refine blk_drew ?_|refine blk_alloc ?_ _));exact BK383.out) hb);have n4_:=Aside0.mk (below_step (by repeat (first|(with_reducible first|exact HB.out|apply below_alloc|apply pw_below_drewN|apply below_drew1|refine below_set ?_ GE383.out)|exact HB.out)) hb);clear HO_12;clear HO_35;clear BK383;clear HB;have HO_12:=n0_;have HO_35:=n1_;have HO403:=n2_;have BK383:=n3_;have HB:=n4_;clear n0_ n1_ n2_ n3_ n4_;(try clear hb);(try clear hb2);(try clear hk);(try clear hi);(try clear ho0);obtain ⟨Ao38,co38,eo38⟩:=Kd.R_slice HO403.out;subst eo38)|((with_reducible refine gate_dst (N:=17) rfl ?_);refine box_event ?hg (N:=17) ?hd (cs:=#[.string (⟨#[]⟩:ByteArray), .slice none 0 0, .bool false, .string (⟨#[]⟩:ByteArray)]) (t:=24) ?hr ?_;(case hd=>rfl);(case hg=>rfl);(case hr=>first|(go_simp;done)|(go_simp;rfl));intro gb404 hg w39 hbox hb;have n0_:=Aside0.mk (Kd.R_below (by (with_reducible repeat (first|apply Kd.R_alloc|apply Kd.R_drewN|apply Kd.R_drew));exact HO_12.out) hb);have n1_:=Aside0.mk (Kd.R_below (by (with_reducible repeat (first|apply Kd.R_alloc|apply Kd.R_drewN|apply Kd.R_drew));exact HO_35.out) hb);have n2_:=Aside0.mk (Kd.R_below (by (with_reducible repeat (first|apply Kd.R_alloc|apply Kd.R_drewN|apply Kd.R_drew));exact HO403.out) hb);have n3_:=Aside0.mk (blk_below (g:=gb383) (o:=.cells #[.string x384000_1, .slice none 0 0, .bool x384002_1, .string x384003_1] 24 (0,0)) (by (with_reducible repeat (first|refine blk_drewN ?_ _|refine blk_drew ?_|refine blk_alloc ?_ _));exact BK383.out) hb);have n4_:=Aside0.mk (below_step (by repeat (first|(with_reducible first|exact HB.out|apply below_alloc|apply pw_below_drewN|apply below_drew1|refine below_set ?_ GE383.out)|exact HB.out)) hb);have n5_:=Aside0.mk (hbox);have n6_:=Aside0.mk ((by rw [hg];exact (below_size (by repeat (first|(with_reducible first|exact HB.out|apply below_alloc|apply pw_below_drewN|apply below_drew1|refine below_set ?_ GE383.out)|exact HB.out))):w.heap.size ≤ gb404));have n7_:=n6_;have n8_:=Aside0.mk ((by rw [hg];exact Nat.ne_of_lt (blk_lt (g:=gb383) (o:=.cells #[.string x384000_1, .slice none 0 0, .bool x384002_1, .string x384003_1] 24 (0,0)) (by (with_reducible repeat (first|refine blk_drewN ?_ _|refine blk_drew ?_|refine blk_alloc ?_ _));exact BK383.out)):gb383 ≠ gb404));have n9_:=Aside0.mk ((by rw [hg];exact Nat.ne_of_gt (blk_lt (g:=gb383) (o:=.cells #[.string x384000_1, .slice none 0 0, .bool x384002_1, .string x384003_1] 24 (0,0)) (by (with_reducible repeat (first|refine blk_drewN ?_ _|refine blk_drew ?_|refine blk_alloc ?_ _));exact BK383.out)):gb404 ≠ gb383));clear HO_12;clear HO_35;clear HO403;clear BK383;clear HB;have HO_12:=n0_;have HO_35:=n1_;have HO403:=n2_;have BK383:=n3_;have HB:=n4_;have BK404:=n5_;have GW404:=n6_;have GE404:=n7_;have NB383_404:=n8_;have NB404_383:=n9_;clear n0_ n1_ n2_ n3_ n4_ n5_ n6_ n7_ n8_ n9_;clear hb hbox hg;have hnb40:=NB404_383.out;have hnc40:=NB383_404.out;have hcz41_0:w39.cell? ⟨gb404,0,none⟩ = some (.string (⟨#[]⟩:ByteArray)):=(blk_cell BK404.out 0).trans rfl;have hcz41_1:w39.cell? ⟨gb404,1,none⟩ = some (.slice none 0 0):=(blk_cell BK404.out 1).trans rfl;have hcz41_2:w39.cell? ⟨gb404,2,none⟩ = some (.bool false):=(blk_cell BK404.out 2).trans rfl;have hcz41_3:w39.cell? ⟨gb404,3,none⟩ = some (.string (⟨#[]⟩:ByteArray)):=(blk_cell BK404.out 3).trans rfl;have hfz41_0:=blk_frozen BK404.out 0;have hfz41_1:=blk_frozen BK404.out 1;have hfz41_2:=blk_frozen BK404.out 2;have hfz41_3:=blk_frozen BK404.out 3)|((with_reducible refine gate_callee (f:=18) rfl ?_);refine goesL_ (some 61) rfl rfl Tryd.func18 (by kernel_rfl) rfl #[.agg #[.string a0, .slice Ao38 t401.length co38, .bool t386, .string t387]] rfl (by (try simp only [List.map_toArray,List.map_cons,List.map_nil]);first|done|rfl|(simp only [List.length_drop,List.length_take];rfl)) ?_;(with_reducible refine (impl_AddrOk.calls k1 a0 _ _ t401 t386 t387 false _ ?side1 ?side2 A25.out).mono ?_);(case side1=>refine (Kd.R_reads' (e:=9) (base:=w.heap.size) (ok:=fun k_=>((True ∧ some k_ ≠ (.slice Ao36 x12_1.length co36:Value).ownBlock) ∧ some k_ ≠ (.slice Ao13 t392.length co13:Value).ownBlock)) (n:=t401.length) (c:=co38) ?_).2.2;exact (by (with_reducible repeat (first|apply Kd.R_alloc|apply Kd.R_drewN|apply Kd.R_drew));exact (Kd.R_mono (Kd.R_far (p:=⟨gb404,3,none⟩) (Kd.R_far (p:=⟨gb404,2,none⟩) (Kd.R_far (p:=⟨gb404,1,none⟩) (Kd.R_far (p:=⟨gb404,0,none⟩) (Kd.R_types HO403.out BK404.out (by decide)) (fun _ hk=>hk.2) (.string a0)) (fun _ hk=>hk.2) (.slice Ao38 t401.length co38)) (fun _ hk=>hk.2) (.bool t386)) (fun _ hk=>hk.2) (.string t387)) (fun _ h_=>h_.1))));(case side2=>exact (Kd.R_reads' HO403.out).2.1);rintro e w42 ⟨rfl,hb⟩;refine ⟨_,rfl,?_⟩;have n0_:=Aside0.mk (Kd.R_below (by (with_reducible repeat (first|apply Kd.R_alloc|apply Kd.R_drewN|apply Kd.R_drew));exact (Kd.R_mono (Kd.R_far (p:=⟨gb404,3,none⟩) (Kd.R_far (p:=⟨gb404,2,none⟩) (Kd.R_far (p:=⟨gb404,1,none⟩) (Kd.R_far (p:=⟨gb404,0,none⟩) (Kd.R_types HO_12.out BK404.out (by decide)) (fun _ hk=>hk.2) (.string a0)) (fun _ hk=>hk.2) (.slice Ao38 t401.length co38)) (fun _ hk=>hk.2) (.bool t386)) (fun _ hk=>hk.2) (.string t387)) (fun _ h_=>h_.1))) hb);have n1_:=Aside0.mk (Kd.R_below (by (with_reducible repeat (first|apply Kd.R_alloc|apply Kd.R_drewN|apply Kd.R_drew));exact (Kd.R_mono (Kd.R_far (p:=⟨gb404,3,none⟩) (Kd.R_far (p:=⟨gb404,2,none⟩) (Kd.R_far (p:=⟨gb404,1,none⟩) (Kd.R_far (p:=⟨gb404,0,none⟩) (Kd.R_types HO_35.out BK404.out (by decide)) (fun _ hk=>hk.2) (.string a0)) (fun _ hk=>hk.2) (.slice Ao38 t401.length co38)) (fun _ hk=>hk.2) (.bool t386)) (fun _ hk=>hk.2) (.string t387)) (fun _ h_=>h_.1))) hb);have n2_:=Aside0.mk (Kd.R_below (by (with_reducible repeat (first|apply Kd.R_alloc|apply Kd.R_drewN|apply Kd.R_drew));exact (Kd.R_mono (Kd.R_far (p:=⟨gb404,3,none⟩) (Kd.R_far (p:=⟨gb404,2,none⟩) (Kd.R_far (p:=⟨gb404,1,none⟩) (Kd.R_far (p:=⟨gb404,0,none⟩) (Kd.R_types HO403.out BK404.out (by decide)) (fun _ hk=>hk.2) (.string a0)) (fun _ hk=>hk.2) (.slice Ao38 t401.length co38)) (fun _ hk=>hk.2) (.bool t386)) (fun _ hk=>hk.2) (.string t387)) (fun _ h_=>h_.1))) hb);have n3_:=Aside0.mk (blk_below (g:=gb383) (o:=.cells #[.string x384000_1, .slice none 0 0, .bool x384002_1, .string x384003_1] 24 (0,0)) (by (with_reducible repeat (first|refine blk_drewN ?_ _|refine blk_drew ?_|refine blk_alloc ?_ _));refine blk_far ?_ NB383_404.out _;(with_reducible repeat (first|refine blk_drewN ?_ _|refine blk_drew ?_|refine blk_alloc ?_ _));refine blk_far ?_ NB383_404.out _;(with_reducible repeat (first|refine blk_drewN ?_ _|refine blk_drew ?_|refine blk_alloc ?_ _));refine blk_far ?_ NB383_404.out _;(with_reducible repeat (first|refine blk_drewN ?_ _|refine blk_drew ?_|refine blk_alloc ?_ _));refine blk_far ?_ NB383_404.out _;(with_reducible repeat (first|refine blk_drewN ?_ _|refine blk_drew ?_|refine blk_alloc ?_ _));exact BK383.out) hb);have n4_:=Aside0.mk (blk_below (g:=gb404) (o:=.cells #[.string a0, .slice Ao38 t401.length co38, .bool t386, .string t387] 24 (0,0)) (by (with_reducible repeat (first|refine blk_drewN ?_ _|refine blk_drew ?_|refine blk_alloc ?_ _));refine blk_put (cs:=#[.string a0, .slice Ao38 t401.length co38, .bool t386, .string (⟨#[]⟩:ByteArray)]) ?_ 3 _ rfl;(with_reducible repeat (first|refine blk_drewN ?_ _|refine blk_drew ?_|refine blk_alloc ?_ _));refine blk_put (cs:=#[.string a0, .slice Ao38 t401.length co38, .bool false, .string (⟨#[]⟩:ByteArray)]) ?_ 2 _ rfl;(with_reducible repeat (first|refine blk_drewN ?_ _|refine blk_drew ?_|refine blk_alloc ?_ _));refine blk_put (cs:=#[.string a0, .slice none 0 0, .bool false, .string (⟨#[]⟩:ByteArray)]) ?_ 1 _ rfl;(with_reducible repeat (first|refine blk_drewN ?_ _|refine blk_drew ?_|refine blk_alloc ?_ _));refine blk_put (cs:=#[.string (⟨#[]⟩:ByteArray), .slice none 0 0, .bool false, .string (⟨#[]⟩:ByteArray)]) ?_ 0 _ rfl;(with_reducible repeat (first|refine blk_drewN ?_ _|refine blk_drew ?_|refine blk_alloc ?_ _));exact BK404.out) hb);have n5_:=Aside0.mk (below_step (by repeat (first|(with_reducible first|exact HB.out|apply below_alloc|apply pw_below_drewN|apply below_drew1|refine below_set ?_ GE383.out|refine below_set ?_ GE404.out)|exact HB.out)) hb);clear HO_12;clear HO_35;clear HO403;clear BK383;clear BK404;clear HB;have HO_12:=n0_;have HO_35:=n1_;have HO403:=n2_;have BK383:=n3_;have BK404:=n4_;have HB:=n5_;clear n0_ n1_ n2_ n3_ n4_ n5_;(try clear hb);(try clear hb2);(try clear hk);(try clear hi);have hcz43_0:w42.cell? ⟨gb383,0,none⟩ = some (.string x384000_1):=(blk_cell BK383.out 0).trans rfl;have hcz43_1:w42.cell? ⟨gb383,1,none⟩ = some (.slice none 0 0):=(blk_cell BK383.out 1).trans rfl;have hcz43_2:w42.cell? ⟨gb383,2,none⟩ = some (.bool x384002_1):=(blk_cell BK383.out 2).trans rfl;have hcz43_3:w42.cell? ⟨gb383,3,none⟩ = some (.string x384003_1):=(blk_cell BK383.out 3).trans rfl;have hfz43_0:=blk_frozen BK383.out 0;have hfz43_1:=blk_frozen BK383.out 1;have hfz43_2:=blk_frozen BK383.out 2;have hfz43_3:=blk_frozen BK383.out 3))
      refine bodyPost_ret (results_ct rfl _ _ gb383 24 #[.string (⟨#[]⟩:ByteArray), .slice none 0 0, .bool false, .string (⟨#[]⟩:ByteArray)] (0,0) _ rfl (by (with_reducible repeat (first|refine blk_drewN ?_ _|refine blk_drew ?_|refine blk_alloc ?_ _));refine blk_put (cs:=#[.string (⟨#[]⟩:ByteArray), .slice none 0 0, .bool false, .string x384003_1]) ?_ 3 _ rfl;(with_reducible repeat (first|refine blk_drewN ?_ _|refine blk_drew ?_|refine blk_alloc ?_ _));refine blk_put (cs:=#[.string (⟨#[]⟩:ByteArray), .slice none 0 0, .bool x384002_1, .string x384003_1]) ?_ 2 _ rfl;(with_reducible repeat (first|refine blk_drewN ?_ _|refine blk_drew ?_|refine blk_alloc ?_ _));refine blk_put (cs:=#[.string (⟨#[]⟩:ByteArray), .slice none 0 0, .bool x384002_1, .string x384003_1]) ?_ 1 _ rfl;(with_reducible repeat (first|refine blk_drewN ?_ _|refine blk_drew ?_|refine blk_alloc ?_ _));refine blk_put (cs:=#[.string x384000_1, .slice none 0 0, .bool x384002_1, .string x384003_1]) ?_ 0 _ rfl;(with_reducible repeat (first|refine blk_drewN ?_ _|refine blk_drew ?_|refine blk_alloc ?_ _));exact BK383.out) Tryd.underlying24 rfl (by kernel_rfl)) rfl ?_
      exact ⟨_,by first|rfl|(simp <;> rfl)|(simp [*] <;> rfl),by first|exact Kd.R_nil _ _ _ _ _|exact Kd.N_nil _ _ _ _ _|exact Kd.V_nil _ _ _ _ _|exact Kd.Q_nil _ _ _ _ _|exact Kd.S_nil _ _ _ _ _,by repeat (first|(with_reducible first|exact HB.out|apply below_alloc|apply pw_below_drewN|apply below_drew1|refine below_set ?_ GE383.out|refine below_set ?_ GE404.out)|exact HB.out)⟩
 ·replace c6:=Bool.eq_false_iff.mpr c6
  subst c6
  have H1:(some ((⟨#[]⟩:ByteArray),([]:List ByteArray),false,(⟨#[]⟩:ByteArray),false)) = some (r1,r2,r3,r4,r5):=by rw [if_neg (show ¬ (false = true) by decide)] at H;exact H
  clear H
  have H:=H1
  clear H1
  simp only [Option.some.injEq,Prod.mk.injEq] at H
  obtain ⟨rfl,rfl,rfl,rfl,rfl⟩:=H
  go_enter Tryd.func43,Tryd.ntmps43
  go_wp2_with (first|((with_reducible refine gate_dst (N:=6) rfl ?_);refine box_event ?hg (N:=6) ?hd (cs:=#[.string (⟨#[]⟩:ByteArray), .slice none 0 0, .bool false, .string (⟨#[]⟩:ByteArray)]) (t:=24) ?hr ?_;(case hd=>rfl);(case hg=>rfl);(case hr=>first|(go_simp;done)|(go_simp;rfl));intro gb383 hg w44 hbox hb;have n0_:=Aside0.mk (below_step (by repeat (first|(with_reducible first|exact HB.out|apply below_alloc|apply pw_below_drewN|apply below_drew1)|exact HB.out)) hb);have n1_:=Aside0.mk (hbox);have n2_:=Aside0.mk ((by rw [hg];exact (below_size (by repeat (first|(with_reducible first|exact HB.out|apply below_alloc|apply pw_below_drewN|apply below_drew1)|exact HB.out))):w.heap.size ≤ gb383));have n3_:=n2_;clear HB;have HB:=n0_;have BK383:=n1_;have GW383:=n2_;have GE383:=n3_;clear n0_ n1_ n2_ n3_;clear hb hbox hg)|((with_reducible refine gate_callee (f:=21) rfl ?_);refine goesL_ (some 20) rfl rfl Tryd.func21 (by kernel_rfl) rfl #[.string a2, .string (⟨#[63]⟩:ByteArray)] rfl (by (try simp only [List.map_toArray,List.map_cons,List.map_nil]);first|done|rfl|(simp only [List.length_drop,List.length_take];rfl)) ?_;(with_reducible refine (strings_Cut.calls a2 (⟨#[63]⟩:ByteArray) t384 t385 t386 _ A4.out).mono ?_);rintro e w' ⟨rfl,⟨nd,rfl⟩⟩;refine ⟨_,rfl,?_⟩;(try (rw [drewN_self w44];generalize hq_:World.drewN w44 _ = w44;have n0_:Aside0 (w44.heap[gb383]? = some (.cells #[.string (⟨#[]⟩:ByteArray), .slice none 0 0, .bool false, .string (⟨#[]⟩:ByteArray)] 24 (0,0))):=⟨by rw [← hq_];exact (by (with_reducible repeat (first|refine blk_drewN ?_ _|refine blk_drew ?_|refine blk_alloc ?_ _));exact BK383.out)⟩;have n1_:Aside0 (Below w.heap.size w w44):=⟨by rw [← hq_];exact (by repeat (first|(with_reducible first|exact HB.out|apply below_alloc|apply pw_below_drewN|apply below_drew1|refine below_set ?_ GE383.out)|exact HB.out))⟩;clear BK383 HB hq_;have BK383:=n0_;have HB:=n1_;clear n0_ n1_)))|((with_reducible refine gate_callee (f:=52) rfl ?_);refine goesL_ (some 26) rfl rfl Tryd.func52 (by kernel_rfl) rfl #[.string t385] rfl (by (try simp only [List.map_toArray,List.map_cons,List.map_nil]);first|done|rfl|(simp only [List.length_drop,List.length_take];rfl)) ?_;(with_reducible refine (impl_EscNorm.calls k t385 t387 false _ A5.out).mono ?_);rintro e w45 ⟨rfl,hb⟩;refine ⟨_,rfl,?_⟩;have n0_:=Aside0.mk (blk_below (g:=gb383) (o:=.cells #[.string (⟨#[]⟩:ByteArray), .slice none 0 0, .bool false, .string (⟨#[]⟩:ByteArray)] 24 (0,0)) (by (with_reducible repeat (first|refine blk_drewN ?_ _|refine blk_drew ?_|refine blk_alloc ?_ _));exact BK383.out) hb);have n1_:=Aside0.mk (below_step (by repeat (first|(with_reducible first|exact HB.out|apply below_alloc|apply pw_below_drewN|apply below_drew1|refine below_set ?_ GE383.out)|exact HB.out)) hb);clear BK383;clear HB;have BK383:=n0_;have HB:=n1_;clear n0_ n1_;(try clear hb);(try clear hb2);(try clear hk);(try clear hi);have hcz46_0:w45.cell? ⟨gb383,0,none⟩ = some (.string (⟨#[]⟩:ByteArray)):=(blk_cell BK383.out 0).trans rfl;have hcz46_1:w45.cell? ⟨gb383,1,none⟩ = some (.slice none 0 0):=(blk_cell BK383.out 1).trans rfl;have hcz46_2:w45.cell? ⟨gb383,2,none⟩ = some (.bool false):=(blk_cell BK383.out 2).trans rfl;have hcz46_3:w45.cell? ⟨gb383,3,none⟩ = some (.string (⟨#[]⟩:ByteArray)):=(blk_cell BK383.out 3).trans rfl;have hfz46_0:=blk_frozen BK383.out 0;have hfz46_1:=blk_frozen BK383.out 1;have hfz46_2:=blk_frozen BK383.out 2;have hfz46_3:=blk_frozen BK383.out 3))
  refine bodyPost_ret (results_ct rfl _ _ gb383 24 #[.string (⟨#[]⟩:ByteArray), .slice none 0 0, .bool false, .string (⟨#[]⟩:ByteArray)] (0,0) _ rfl (by (with_reducible repeat (first|refine blk_drewN ?_ _|refine blk_drew ?_|refine blk_alloc ?_ _));refine blk_put (cs:=#[.string (⟨#[]⟩:ByteArray), .slice none 0 0, .bool false, .string (⟨#[]⟩:ByteArray)]) ?_ 3 _ rfl;(with_reducible repeat (first|refine blk_drewN ?_ _|refine blk_drew ?_|refine blk_alloc ?_ _));refine blk_put (cs:=#[.string (⟨#[]⟩:ByteArray), .slice none 0 0, .bool false, .string (⟨#[]⟩:ByteArray)]) ?_ 2 _ rfl;(with_reducible repeat (first|refine blk_drewN ?_ _|refine blk_drew ?_|refine blk_alloc ?_ _));refine blk_put (cs:=#[.string (⟨#[]⟩:ByteArray), .slice none 0 0, .bool false, .string (⟨#[]⟩:ByteArray)]) ?_ 1 _ rfl;(with_reducible repeat (first|refine blk_drewN ?_ _|refine blk_drew ?_|refine blk_alloc ?_ _));refine blk_put (cs:=#[.string (⟨#[]⟩:ByteArray), .slice none 0 0, .bool false, .string (⟨#[]⟩:ByteArray)]) ?_ 0 _ rfl;(with_reducible repeat (first|refine blk_drewN ?_ _|refine blk_drew ?_|refine blk_alloc ?_ _));exact BK383.out) Tryd.underlying24 rfl (by kernel_rfl)) rfl ?_
  exact ⟨_,by first|rfl|(simp <;> rfl)|(simp [*] <;> rfl),by first|exact Kd.R_nil _ _ _ _ _|exact Kd.N_nil _ _ _ _ _|exact Kd.V_nil _ _ _ _ _|exact Kd.Q_nil _ _ _ _ _|exact Kd.S_nil _ _ _ _ _,by repeat (first|(with_reducible first|exact HB.out|apply below_alloc|apply pw_below_drewN|apply below_drew1|refine below_set ?_ GE383.out)|exact HB.out)⟩

/-! ### impl_smallLetters: function 44 -/
/-- A letter, small. -/
def impl_smallLetters.lo (x:Int):Int:=if 65 ≤ x ∧ x ≤ 90 then x + 32 else x
def impl_smallLetters.f (a0:ByteArray):Option ByteArray:=if a0.size ≤ 1000000 then some (strOfNums ((bytesOf a0).map impl_smallLetters.lo)) else none
/-- The first k bytes are small ones. -/
def impl_smallLetters.upto (xs:List Int) (k:Nat):List Int:=(xs.take k).map impl_smallLetters.lo ++ xs.drop k
/-- The new row holds these bytes, in front. -/
def impl_smallLetters.Row (w wr:World) (e:Nat) (xs:List Int):Prop :=
 Below w.heap.size w wr ∧ ∃ C:Array Value,wr.heap[w.heap.size]? = some (.cells C e (C.size,C.size + 1)) ∧ xs.length ≤ C.size ∧ ∀ j,j < xs.length → C[j]? = some (.int .u8 (xs.getD j 0))
theorem impl_smallLetters.upto_length (xs:List Int) (k:Nat):(impl_smallLetters.upto xs k).length = xs.length:=by
 unfold impl_smallLetters.upto;simp;omega
theorem impl_smallLetters.upto_at (xs:List Int) (k:Nat) (h:k < xs.length):(impl_smallLetters.upto xs k).getD k 0 = xs.getD k 0:=by
 unfold impl_smallLetters.upto
 rw [List.getD_eq_getElem?_getD,List.getElem?_append_right (by simp;omega)]
 simp only [List.length_map,List.length_take,List.getElem?_drop,List.getD_eq_getElem?_getD]
 rw [show k + (k - min k xs.length) = k by omega]
theorem impl_smallLetters.upto_succ (xs:List Int) (k:Nat) (h:k < xs.length):impl_smallLetters.upto xs (k + 1) = (impl_smallLetters.upto xs k).set k (impl_smallLetters.lo (xs.getD k 0)):=by
 unfold impl_smallLetters.upto
 have hl:((xs.take k).map impl_smallLetters.lo).length = k:=by simp;omega
 rw [List.set_append_right k _ (by omega),hl,Nat.sub_self,List.drop_eq_getElem_cons h,List.set_cons_zero,List.take_succ_eq_append_getElem h,List.map_append,List.getD_eq_getElem?_getD,List.getElem?_eq_getElem h]
 simp
theorem impl_smallLetters.upto_same (xs:List Int) (k:Nat) (h:k < xs.length) (hn:¬ (65 ≤ xs.getD k 0 ∧ xs.getD k 0 ≤ 90)):impl_smallLetters.upto xs (k + 1) = impl_smallLetters.upto xs k:=by
 rw [impl_smallLetters.upto_succ xs k h]
 have:impl_smallLetters.lo (xs.getD k 0) = (impl_smallLetters.upto xs k).getD k 0:=by
  rw [impl_smallLetters.upto_at xs k h];unfold impl_smallLetters.lo;rw [if_neg hn]
 rw [this,List.getD_eq_getElem?_getD,List.getElem?_eq_getElem (by rw [impl_smallLetters.upto_length];exact h),Option.getD_some,List.set_getElem_self]
theorem impl_smallLetters.upto_all (xs:List Int):impl_smallLetters.upto xs xs.length = xs.map impl_smallLetters.lo:=by
 unfold impl_smallLetters.upto;simp
theorem impl_smallLetters.Row.new (w:World) (e:Nat) (s:ByteArray):impl_smallLetters.Row w (Lib.bytesWorld w e s) e (bytesOf s):=by
 refine ⟨⟨rfl,rfl,rfl,by rw [Lib.bytesWorld_size];omega,fun k hk=>Lib.bytesWorld_at_old w e s k hk⟩,_,Lib.bytesWorld_at_new w e s,?_,fun j hj=>?_⟩
 ·rw [bytesOf_length];simp [Lib.bytesCells]
 ·rw [bytesOf_length] at hj
  have h:=Lib.bytesWorld_cell w e s j hj
  simp only [World.cell?,Lib.bytesWorld_at_new] at h
  rw [show (bytesOf s).getD j 0 = ((s.data.toList.getD j 0).toNat:Int) by
   unfold bytesOf
   rw [List.getD_eq_getElem?_getD,List.getD_eq_getElem?_getD,List.getElem?_map]
   have:j < s.data.toList.length:=by rw [data_length];exact hj
   rw [List.getElem?_eq_getElem this];rfl]
  simpa using h
theorem impl_smallLetters.Row.cell {w wr:World} {e:Nat} {xs:List Int} (h:impl_smallLetters.Row w wr e xs) {j:Nat} (hj:j < xs.length):wr.cell? ⟨w.heap.size,j,none⟩ = some (.int .u8 (xs.getD j 0)):=by
 obtain ⟨_,C,hC,hl,hx⟩:=h
 simp only [World.cell?,hC]
 simpa using hx j hj
theorem impl_smallLetters.Row.free {w wr:World} {e:Nat} {xs:List Int} (h:impl_smallLetters.Row w wr e xs) {j:Nat} (hj:j < xs.length):wr.frozen? ⟨w.heap.size,j,none⟩ = false:=by
 obtain ⟨_,C,hC,hl,hx⟩:=h
 simp only [World.frozen?,hC]
 simp;omega
theorem impl_smallLetters.Row.set {w wr:World} {e:Nat} {xs:List Int} (h:impl_smallLetters.Row w wr e xs) (j:Nat) (x:Int):impl_smallLetters.Row w (wr.setCell ⟨w.heap.size,j,none⟩ (.int .u8 x)) e (xs.set j x):=by
 obtain ⟨hb,C,hC,hl,hx⟩:=h
 refine ⟨below_set hb (Nat.le_refl _),C.setIfInBounds j (.int .u8 x),?_,by simpa using hl,fun i hi=>?_⟩
 ·simp [World.setCell,Array.getElem?_modify,hC]
 ·rw [List.length_set] at hi
  by_cases hij:i = j
  ·subst hij
   rw [Array.getElem?_setIfInBounds_self_of_lt (by omega),List.getD_eq_getElem?_getD,List.getElem?_set_self hi];rfl
  ·rw [Array.getElem?_setIfInBounds_ne (Ne.symm hij),hx i hi,List.getD_eq_getElem?_getD,List.getD_eq_getElem?_getD,List.getElem?_set_ne (Ne.symm hij)]
theorem impl_smallLetters.Row.reads {w wr:World} {e:Nat} {xs:List Int} (h:impl_smallLetters.Row w wr e xs) (hm:xs.length ≤ 1000000):ReadsInt wr .u8 (some ⟨w.heap.size,0,none⟩) xs.length xs:=by
 refine ⟨rfl,by omega,fun _=>⟨_,rfl,fun j hj=>?_⟩⟩
 rw [add_plain];exact h.cell hj
theorem impl_smallLetters.byte_bd (s:ByteArray) (k:Nat):0 ≤ (bytesOf s).getD k 0 ∧ (bytesOf s).getD k 0 ≤ 255:=by
 have:=bt_range s k
 rw [← rd_bytesOf] at this
 simpa [rd] using this
theorem impl_smallLetters.calls (a0:ByteArray) (r:ByteArray) (w:World) (h:impl_smallLetters.f a0 = some r) :
  Calls Tryd.prog 44 #[.string a0] w fun e w'=>e = .returned (.string r) ∧ Below w.heap.size w w':=by
 have hs:a0.size ≤ 1000000:=by
  unfold impl_smallLetters.f at h
  split at h
  ·assumption
  ·cases h
 have HR:=Aside0.mk (show strOfNums ((bytesOf a0).map impl_smallLetters.lo) = r by
  unfold impl_smallLetters.f at h
  rw [if_pos hs] at h
  exact Option.some.inj h)
 clear h
 obtain ⟨W0,cap,hcv,HW⟩:∃ W0 cap,(convert 9 30 (.string a0)).run Tryd.prog w = .ok (.slice (some ⟨w.heap.size,0,none⟩) a0.size cap) W0 ∧ Aside0 (impl_smallLetters.Row w W0 5 (impl_smallLetters.upto (bytesOf a0) 0)):=by
  refine ⟨_,_,Lib.run_convert_string_bytes w 9 30 5 a0 Tryd.underlying9 Tryd.underlying30 Tryd.underlying5,⟨?_⟩⟩
  have:=impl_smallLetters.Row.new w 5 a0
  simpa [impl_smallLetters.upto] using this
 go_enter Tryd.func44,Tryd.ntmps44
 go_wp2
 go_loopw [10] (fun v wr=>∃ k:Nat,k ≤ a0.size ∧ v = .int .i64 k ∧ Aside0 (impl_smallLetters.Row w wr 5 (impl_smallLetters.upto (bytesOf a0) k))) (fun v _=>a0.size - (intOf v).toNat)
 case atStart=>exact ⟨0,Nat.zero_le _,rfl,HW⟩
 case round =>
  clear hcv HW
  obtain ⟨k,hk,rfl,HK⟩:=hrel
  by_cases hlt:k < a0.size
  ·have HL:=Aside0.mk (bytesOf_length a0)
   have hbd:=impl_smallLetters.byte_bd a0 k
   have hc:=HK.out.cell (j:=k) (by rw [impl_smallLetters.upto_length,HL.out];exact hlt)
   rw [impl_smallLetters.upto_at _ k (by rw [HL.out];exact hlt)] at hc
   have hf:=HK.out.free (j:=k) (by rw [impl_smallLetters.upto_length,HL.out];exact hlt)
   generalize hx:(bytesOf a0).getD k 0 = x at hc hbd
   have HX:=Aside0.mk hx
   clear hx
   by_cases h1:65 ≤ x
   ·by_cases h2:x ≤ 90
    ·have HN:=Aside0.mk (HK.out.set k (x + 32))
     go_wp2
     go_roundw
     case rel=>exact ⟨k + 1,by omega,by go_num,⟨by
      rw [impl_smallLetters.upto_succ _ k (by rw [HL.out];exact hlt),HX.out,show impl_smallLetters.lo x = x + 32 by unfold impl_smallLetters.lo;rw [if_pos ⟨h1,h2⟩]]
      exact HN.out⟩⟩
     case measure=>simp [intOf];omega
    ·go_wp2
     go_roundw
     case rel=>exact ⟨k + 1,by omega,by go_num,⟨by
      rw [impl_smallLetters.upto_same _ k (by rw [HL.out];exact hlt) (by rw [HX.out];omega)]
      exact HK.out⟩⟩
     case measure=>simp [intOf];omega
   ·go_wp2
    go_roundw
    case rel=>exact ⟨k + 1,by omega,by go_num,⟨by
     rw [impl_smallLetters.upto_same _ k (by rw [HL.out];exact hlt) (by rw [HX.out];omega)]
     exact HK.out⟩⟩
    case measure=>simp [intOf];omega
  ·obtain rfl:k = a0.size:=by omega
   have HL:=Aside0.mk (bytesOf_length a0)
   have hcb:(convert 30 9 (.slice (some ⟨w.heap.size,0,none⟩) a0.size cap)).run Tryd.prog wr = .ok (.string r) wr:=by
    have e:impl_smallLetters.upto (bytesOf a0) a0.size = (bytesOf a0).map impl_smallLetters.lo:=by
     rw [← HL.out];exact impl_smallLetters.upto_all _
    have h:=HK.out
    rw [e] at h
    have hl:((bytesOf a0).map impl_smallLetters.lo).length = a0.size:=by rw [List.length_map,HL.out]
    have hr:=h.reads (by omega)
    rw [hl] at hr
    rw [← HR.out]
    exact string_of_reads Tryd.underlying30 Tryd.underlying5 Tryd.underlying9 hr
   have HB:=Aside0.mk HK.out.1
   go_wp2
   go_ret
   exact ⟨rfl,HB.out⟩

/-! ### impl_readWhole: function 22 -/
def impl_readWhole.f (k:Nat) (a0:ByteArray):Option (ByteArray × List ByteArray × Bool × ByteArray × Bool):=(strings_CutPrefix.f a0 (⟨#[47,47]⟩:ByteArray)).bind fun bt407=>(if bt407.2 = true then ((strings_IndexAny.f bt407.1 (⟨#[47,63]⟩:ByteArray)).bind fun t409=>(if t409 < 0 then (if 0 ≤ (bt407.1.size:Int) then (if (bt407.1.size:Int) ≤ (bt407.1.size:Int) then ((impl_smallLetters.f (bt407.1.extract 0 ((bt407.1.size:Int):Int).toNat)).bind fun t410=>((impl_readWay.f k t410 ([]:List ByteArray) (bt407.1.extract ((bt407.1.size:Int):Int).toNat bt407.1.size)).bind fun bt411=>(some (bt411.1,bt411.2.1,bt411.2.2.1,bt411.2.2.2.1,bt411.2.2.2.2)))) else (none)) else (none)) else (if 0 ≤ t409 then (if t409 ≤ (bt407.1.size:Int) then ((impl_smallLetters.f (bt407.1.extract 0 (t409:Int).toNat)).bind fun t418=>((impl_readWay.f k t418 ([]:List ByteArray) (bt407.1.extract (t409:Int).toNat bt407.1.size)).bind fun bt419=>(some (bt419.1,bt419.2.1,bt419.2.2.1,bt419.2.2.2.1,bt419.2.2.2.2)))) else (none)) else (none)))) else (some ((⟨#[]⟩:ByteArray),([]:List ByteArray),false,(⟨#[]⟩:ByteArray),false)))
theorem impl_readWhole.mono:∀ a0 k,LeO (impl_readWhole.f k a0) (impl_readWhole.f (k + 1) a0):=by
 intro a0 k
 unfold impl_readWhole.f
 repeat' first
   | (with_reducible exact impl_readWay.mono _ _ _ _)
   | (with_reducible exact LeO.refl _)
   | (with_reducible exact LeO.none _)
   | (with_reducible refine LeO.ite ?_ ?_)
   | (with_reducible refine LeO.bind ?_ (fun _=>?_))
   | exact impl_readWay.mono _ _ _ _
   | exact LeO.none _
   | refine LeO.ite ?_ ?_
   | refine LeO.bind ?_ (fun _=>?_)
def impl_readWhole.T7:Bool × List (List Nat × List Nat):=(true,[([],[]),([],[]),([0,1],[0,1]),([2],[2]),([],[]),([],[]),([4,5],[4,5]),([3,6,3],[3,6]),([7],[7]),([7],[7]),([8,7,0,1,2,3,4,5,6,7,8,9],[8]),([9,10,0,1,2,3,4,5,6,7,8,9,10],[9])])
def impl_readWhole.B7:List Nat:=[0,0,3,7,0,0,48,127,255,255,1023,2047]
theorem impl_readWhole.tab7:rtab .any (opsOf Tryd.f22 7) = impl_readWhole.T7:=by kernel_rfl
theorem impl_readWhole.bits7:waitsOk impl_readWhole.T7.2 impl_readWhole.B7 = true:=by kernel_rfl
theorem impl_readWhole.calls (k:Nat) (a0:ByteArray) (r1:ByteArray) (r2:List ByteArray) (r3:Bool) (r4:ByteArray) (r5:Bool) (w:World) (h:impl_readWhole.f k a0 = some (r1,r2,r3,r4,r5)) :
  Calls Tryd.prog 22 #[.string a0] w fun e w'=>∃ v1_:Value,e = .returned (.tuple #[.agg #[.string r1,v1_, .bool r3, .string r4], .bool r5]) ∧ Kd.R Kd.string 9 w' w.heap.size (fun _=>True) v1_ r2 ∧ Below w.heap.size w w':=by
 have hu24:=Tryd.underlying24
 have HB:=Aside0.mk (Below.refl w.heap.size w)
 have H:((strings_CutPrefix.f a0 (⟨#[47,47]⟩:ByteArray)).bind fun bt407=>(if bt407.2 = true then ((strings_IndexAny.f bt407.1 (⟨#[47,63]⟩:ByteArray)).bind fun t409=>(if t409 < 0 then (if 0 ≤ (bt407.1.size:Int) then (if (bt407.1.size:Int) ≤ (bt407.1.size:Int) then ((impl_smallLetters.f (bt407.1.extract 0 ((bt407.1.size:Int):Int).toNat)).bind fun t410=>((impl_readWay.f k t410 ([]:List ByteArray) (bt407.1.extract ((bt407.1.size:Int):Int).toNat bt407.1.size)).bind fun bt411=>(some (bt411.1,bt411.2.1,bt411.2.2.1,bt411.2.2.2.1,bt411.2.2.2.2)))) else (none)) else (none)) else (if 0 ≤ t409 then (if t409 ≤ (bt407.1.size:Int) then ((impl_smallLetters.f (bt407.1.extract 0 (t409:Int).toNat)).bind fun t418=>((impl_readWay.f k t418 ([]:List ByteArray) (bt407.1.extract (t409:Int).toNat bt407.1.size)).bind fun bt419=>(some (bt419.1,bt419.2.1,bt419.2.2.1,bt419.2.2.2.1,bt419.2.2.2.2)))) else (none)) else (none)))) else (some ((⟨#[]⟩:ByteArray),([]:List ByteArray),false,(⟨#[]⟩:ByteArray),false)))) = some (r1,r2,r3,r4,r5):=h
 clear h
 replace H:=Option.bind_eq_some_iff.mp H
 obtain ⟨⟨t407,t408⟩,A20,H⟩:=H
 replace H:(if t408 = true then ((strings_IndexAny.f t407 (⟨#[47,63]⟩:ByteArray)).bind fun t409=>(if t409 < 0 then (if 0 ≤ (t407.size:Int) then (if (t407.size:Int) ≤ (t407.size:Int) then ((impl_smallLetters.f (t407.extract 0 ((t407.size:Int):Int).toNat)).bind fun t410=>((impl_readWay.f k t410 ([]:List ByteArray) (t407.extract ((t407.size:Int):Int).toNat t407.size)).bind fun bt411=>(some (bt411.1,bt411.2.1,bt411.2.2.1,bt411.2.2.2.1,bt411.2.2.2.2)))) else (none)) else (none)) else (if 0 ≤ t409 then (if t409 ≤ (t407.size:Int) then ((impl_smallLetters.f (t407.extract 0 (t409:Int).toNat)).bind fun t418=>((impl_readWay.f k t418 ([]:List ByteArray) (t407.extract (t409:Int).toNat t407.size)).bind fun bt419=>(some (bt419.1,bt419.2.1,bt419.2.2.1,bt419.2.2.2.1,bt419.2.2.2.2)))) else (none)) else (none)))) else (some ((⟨#[]⟩:ByteArray),([]:List ByteArray),false,(⟨#[]⟩:ByteArray),false))) = some (r1,r2,r3,r4,r5):=H
 have A2:=Aside0.mk A20
 clear A20
 by_cases c3:t408 = true
 ·subst c3
  have H1:((strings_IndexAny.f t407 (⟨#[47,63]⟩:ByteArray)).bind fun t409=>(if t409 < 0 then (if 0 ≤ (t407.size:Int) then (if (t407.size:Int) ≤ (t407.size:Int) then ((impl_smallLetters.f (t407.extract 0 ((t407.size:Int):Int).toNat)).bind fun t410=>((impl_readWay.f k t410 ([]:List ByteArray) (t407.extract ((t407.size:Int):Int).toNat t407.size)).bind fun bt411=>(some (bt411.1,bt411.2.1,bt411.2.2.1,bt411.2.2.2.1,bt411.2.2.2.2)))) else (none)) else (none)) else (if 0 ≤ t409 then (if t409 ≤ (t407.size:Int) then ((impl_smallLetters.f (t407.extract 0 (t409:Int).toNat)).bind fun t418=>((impl_readWay.f k t418 ([]:List ByteArray) (t407.extract (t409:Int).toNat t407.size)).bind fun bt419=>(some (bt419.1,bt419.2.1,bt419.2.2.1,bt419.2.2.2.1,bt419.2.2.2.2)))) else (none)) else (none)))) = some (r1,r2,r3,r4,r5):=by rw [if_pos rfl] at H;exact H
  clear H
  have H:=H1
  clear H1
  replace H:=Option.bind_eq_some_iff.mp H
  obtain ⟨t409,A40,H⟩:=H
  replace H:(if t409 < 0 then (if 0 ≤ (t407.size:Int) then (if (t407.size:Int) ≤ (t407.size:Int) then ((impl_smallLetters.f (t407.extract 0 ((t407.size:Int):Int).toNat)).bind fun t410=>((impl_readWay.f k t410 ([]:List ByteArray) (t407.extract ((t407.size:Int):Int).toNat t407.size)).bind fun bt411=>(some (bt411.1,bt411.2.1,bt411.2.2.1,bt411.2.2.2.1,bt411.2.2.2.2)))) else (none)) else (none)) else (if 0 ≤ t409 then (if t409 ≤ (t407.size:Int) then ((impl_smallLetters.f (t407.extract 0 (t409:Int).toNat)).bind fun t418=>((impl_readWay.f k t418 ([]:List ByteArray) (t407.extract (t409:Int).toNat t407.size)).bind fun bt419=>(some (bt419.1,bt419.2.1,bt419.2.2.1,bt419.2.2.2.1,bt419.2.2.2.2)))) else (none)) else (none))) = some (r1,r2,r3,r4,r5):=H
  have A4:=Aside0.mk A40
  clear A40
  by_cases c5:t409 < 0
  ·rw [if_pos c5] at H
   have c5b0:decide (t409 < 0) = true:=decide_eq_true c5
   clear c5
   by_cases c6:0 ≤ (t407.size:Int)
   ·rw [if_pos c6] at H
    have c6b0:=eq_true c6
    have c6b1:=decide_eq_true c6
    clear c6
    by_cases c7:(t407.size:Int) ≤ (t407.size:Int)
    ·rw [if_pos c7] at H
     have c7b0:=eq_true c7
     have c7b1:=decide_eq_true c7
     clear c7
     replace H:=Option.bind_eq_some_iff.mp H
     obtain ⟨t410,A80,H⟩:=H
     replace H:((impl_readWay.f k t410 ([]:List ByteArray) (t407.extract ((t407.size:Int):Int).toNat t407.size)).bind fun bt411=>(some (bt411.1,bt411.2.1,bt411.2.2.1,bt411.2.2.2.1,bt411.2.2.2.2))) = some (r1,r2,r3,r4,r5):=H
     have A8:=Aside0.mk A80
     clear A80
     have c9b0:=eq_true (of_decide_eq_true (by first|(with_reducible assumption)|assumption):0 ≤ (t407.size:Int))
     have c10b0:=eq_true (of_decide_eq_true (by first|(with_reducible assumption)|assumption):(t407.size:Int) ≤ (t407.size:Int))
     replace H:=Option.bind_eq_some_iff.mp H
     obtain ⟨⟨t411,t412,t415,t416,t417⟩,A110,H⟩:=H
     replace H:(some (t411,t412,t415,t416,t417)) = some (r1,r2,r3,r4,r5):=H
     have A11:=Aside0.mk A110
     clear A110
     simp only [Option.some.injEq,Prod.mk.injEq] at H
     obtain ⟨rfl,rfl,rfl,rfl,rfl⟩:=H
     go_enter Tryd.func22,Tryd.ntmps22
     try go_wp2_with (first|((with_reducible refine gate_dst (N:=2) rfl ?_);refine box_event ?hg (N:=2) ?hd (cs:=#[.string (⟨#[]⟩:ByteArray), .slice none 0 0, .bool false, .string (⟨#[]⟩:ByteArray)]) (t:=24) ?hr ?_;(case hd=>rfl);(case hg=>rfl);(case hr=>first|(go_simp;done)|(go_simp;rfl));intro gb406 hg w12 hbox hb;have n0_:=Aside0.mk (below_step (by repeat (first|(with_reducible first|exact HB.out|apply below_alloc|apply pw_below_drewN|apply below_drew1)|exact HB.out)) hb);have n1_:=Aside0.mk (hbox);have n2_:=Aside0.mk ((by rw [hg];exact (below_size (by repeat (first|(with_reducible first|exact HB.out|apply below_alloc|apply pw_below_drewN|apply below_drew1)|exact HB.out))):w.heap.size ≤ gb406));have n3_:=n2_;clear HB;have HB:=n0_;have BK406:=n1_;have GW406:=n2_;have GE406:=n3_;clear n0_ n1_ n2_ n3_;clear hb hbox hg)|((with_reducible refine gate_callee (f:=41) rfl ?_);refine goesL_ (some 9) rfl rfl Tryd.func41 (by kernel_rfl) rfl #[.string a0, .string (⟨#[47,47]⟩:ByteArray)] rfl (by (try simp only [List.map_toArray,List.map_cons,List.map_nil]);first|done|rfl|(simp only [List.length_drop,List.length_take];rfl)|(simp [Act.eval,Array.getD_eq_getD_getElem?];done)) ?_;(with_reducible refine (strings_CutPrefix.calls a0 (⟨#[47,47]⟩:ByteArray) t407 true _ A2.out).mono ?_);rintro e w' ⟨rfl,⟨nd,rfl⟩⟩;refine ⟨_,rfl,?_⟩;(try (rw [drewN_self w12];generalize hq_:World.drewN w12 _ = w12;have n0_:Aside0 (w12.heap[gb406]? = some (.cells #[.string (⟨#[]⟩:ByteArray), .slice none 0 0, .bool false, .string (⟨#[]⟩:ByteArray)] 24 (0,0))):=⟨by rw [← hq_];exact (by (with_reducible repeat (first|refine blk_drewN ?_ _|refine blk_drew ?_|refine blk_alloc ?_ _));exact BK406.out)⟩;have n1_:Aside0 (Below w.heap.size w w12):=⟨by rw [← hq_];exact (by repeat (first|(with_reducible first|exact HB.out|apply below_alloc|apply pw_below_drewN|apply below_drew1|refine below_set ?_ GE406.out)|exact HB.out))⟩;clear BK406 HB hq_;have BK406:=n0_;have HB:=n1_;clear n0_ n1_)))|((with_reducible refine gate_callee (f:=42) rfl ?_);refine goesL_ (some 16) rfl rfl Tryd.func42 (by kernel_rfl) rfl #[.string t407, .string (⟨#[47,63]⟩:ByteArray)] rfl (by (try simp only [List.map_toArray,List.map_cons,List.map_nil]);first|done|rfl|(simp only [List.length_drop,List.length_take];rfl)|(simp [Act.eval,Array.getD_eq_getD_getElem?];done)) ?_;(with_reducible refine (strings_IndexAny.calls t407 (⟨#[47,63]⟩:ByteArray) t409 _ A4.out).mono ?_);rintro e w13 ⟨rfl,hb⟩;refine ⟨_,rfl,?_⟩;have n0_:=Aside0.mk (blk_below (g:=gb406) (o:=.cells #[.string (⟨#[]⟩:ByteArray), .slice none 0 0, .bool false, .string (⟨#[]⟩:ByteArray)] 24 (0,0)) (by (with_reducible repeat (first|refine blk_drewN ?_ _|refine blk_drew ?_|refine blk_alloc ?_ _));exact BK406.out) hb);have n1_:=Aside0.mk (below_step (by repeat (first|(with_reducible first|exact HB.out|apply below_alloc|apply pw_below_drewN|apply below_drew1|refine below_set ?_ GE406.out)|exact HB.out)) hb);clear BK406;clear HB;have BK406:=n0_;have HB:=n1_;clear n0_ n1_;(try clear hb);(try clear hb2);(try clear hk);(try clear hi)))
     have n0_:=Aside0.mk (blk_drew BK406.out)
     have n1_:=Aside0.mk (below_drew1 HB.out)
     clear BK406
     clear HB
     have BK406:=n0_
     have HB:=n1_
     clear n0_ n1_
     refine start_ (n:=12) (S:=fun w'=>True) (ds:=[]) #[false,false,false,false,false,false,false,false,false,false,false,false] (by kernel_rfl) rfl rfl trivial (fun hHeld=>?_);refine with_tabW impl_readWhole.tab7 impl_readWhole.bits7 (fun HT_ HW_=>?_)
     generalize w13.drew = w14 at BK406 HB hHeld ⊢
     refine pure_ (i:=0) (N:=some 21) (v:=?_) (a':=?_) #[true,false,false,false,false,false,false,false,false,false,false,false] rfl rfl (any_of HT_.out (by kernel_rfl)) (fun _ _ _ h=>h) (Or.inl ⟨by rfl,?_⟩) ?_ ?_
     rotate_left
     ·intro w'
      go_simp
      with_reducible rfl
     rotate_left
     ·simp only [Act.put,List.setIfInBounds_toArray,List.set_cons_zero,List.set_cons_succ,i64_w,i32_w]
      rfl
     refine pure_ (i:=1) (N:=some 22) (v:=?_) (a':=?_) #[true,true,false,false,false,false,false,false,false,false,false,false] rfl rfl (any_of HT_.out (by kernel_rfl)) (fun _ _ _ h=>h) (Or.inl ⟨by rfl,?_⟩) ?_ ?_
     rotate_left
     ·intro w'
      go_simp
      with_reducible rfl
     rotate_left
     ·simp only [Act.put,List.setIfInBounds_toArray,List.set_cons_zero,List.set_cons_succ,i64_w,i32_w]
      rfl
     refine pure_ (i:=2) (N:=some 23) (v:=?_) (a':=?_) #[true,true,true,false,false,false,false,false,false,false,false,false] rfl rfl (any_of HT_.out (by kernel_rfl)) (fun _ _ _ h=>h) (Or.inl ⟨by rfl,?_⟩) ?_ ?_
     rotate_left
     ·intro w'
      go_simp
      with_reducible rfl
     rotate_left
     ·simp only [Act.put,List.setIfInBounds_toArray,List.set_cons_zero,List.set_cons_succ,i64_w,i32_w]
      rfl
     refine pure_ (i:=4) (N:=some 25) (v:=?_) (a':=?_) #[true,true,true,false,true,false,false,false,false,false,false,false] rfl rfl (any_of HT_.out (by kernel_rfl)) (fun _ _ _ h=>h) (Or.inl ⟨by rfl,?_⟩) ?_ ?_
     rotate_left
     ·intro w'
      go_simp
      with_reducible rfl
     rotate_left
     ·simp only [Act.put,List.setIfInBounds_toArray,List.set_cons_zero,List.set_cons_succ,i64_w,i32_w]
      rfl
     refine pure_ (i:=5) (N:=some 26) (v:=?_) (a':=?_) #[true,true,true,false,true,true,false,false,false,false,false,false] rfl rfl (any_of HT_.out (by kernel_rfl)) (fun _ _ _ h=>h) (Or.inl ⟨by rfl,?_⟩) ?_ ?_
     rotate_left
     ·intro w'
      go_simp
      with_reducible rfl
     rotate_left
     ·simp only [Act.put,List.setIfInBounds_toArray,List.set_cons_zero,List.set_cons_succ,i64_w,i32_w]
      rfl
     refine pure_ (i:=6) (N:=some 27) (v:=?_) (a':=?_) #[true,true,true,false,true,true,true,false,false,false,false,false] rfl rfl (any_of HT_.out (by kernel_rfl)) (fun _ _ _ h=>h) (Or.inl ⟨by rfl,?_⟩) ?_ ?_
     rotate_left
     ·intro w'
      go_simp
      with_reducible rfl
     rotate_left
     ·simp only [Act.put,List.setIfInBounds_toArray,List.set_cons_zero,List.set_cons_succ,i64_w,i32_w]
      rfl
     refine one_ (i:=3) (N:=some 24) #[true,true,true,true,true,true,true,false,false,false,false,false] rfl rfl (one_of HT_.out (by kernel_rfl)) (by decide) (fun K hK=>?_)
     refine goes_ Tryd.func44 (by kernel_rfl) rfl #[.string (t407.extract 0 ((t407.size:Int):Int).toNat)] (by rfl) rfl rfl (by (try simp only [List.map_toArray,List.map_cons,List.map_nil]);first|done|rfl|(simp only [List.length_drop,List.length_take];rfl)|(simp [Act.eval,Array.getD_eq_getD_getElem?];done)) ?_
     with_reducible refine (impl_smallLetters.calls (t407.extract 0 ((t407.size:Int):Int).toNat) t410 _ A8.out).mono ?_
     rintro e w15 ⟨rfl,hb⟩
     refine ⟨_,rfl,?_⟩
     have n0_:=Aside0.mk (blk_below (g:=gb406) (o:=.cells #[.string (⟨#[]⟩:ByteArray), .slice none 0 0, .bool false, .string (⟨#[]⟩:ByteArray)] 24 (0,0)) (by (with_reducible repeat (first|refine blk_drewN ?_ _|refine blk_drew ?_|refine blk_alloc ?_ _));exact BK406.out) hb)
     have n1_:=Aside0.mk (below_step (by repeat (first|(with_reducible first|exact HB.out|apply below_alloc|apply pw_below_drewN|apply below_drew1|refine below_set ?_ GE406.out)|exact HB.out)) hb)
     clear BK406
     clear HB
     have BK406:=n0_
     have HB:=n1_
     clear n0_ n1_
     (try clear hb)
     (try clear hb2)
     (try clear hk)
     (try clear hi)
     refine hK.out _ _ trivial (fun hHeld=>?_)
     clear hK K
     refine norm_ (a':=?_) ?_ ?_
     rotate_left
     ·show Act.put _ (some 24) _ = _
      simp only [Act.put,List.setIfInBounds_toArray,List.set_cons_zero,List.set_cons_succ,i64_w,i32_w]
      rfl
     refine one_ (i:=7) (N:=some 28) #[true,true,true,true,true,true,true,true,false,false,false,false] rfl rfl (one_of HT_.out (by kernel_rfl)) (by decide) (fun K hK=>?_)
     refine goes_ Tryd.func43 (by kernel_rfl) rfl #[.string t410, .slice none 0 0, .string (t407.extract ((t407.size:Int):Int).toNat t407.size)] (by rfl) rfl rfl (by (try simp only [List.map_toArray,List.map_cons,List.map_nil]);first|done|rfl|(simp only [List.length_drop,List.length_take];rfl)|(simp [Act.eval,Array.getD_eq_getD_getElem?];done)) ?_
     refine (impl_readWay.calls k t410 _ _ ([]:List ByteArray) (t407.extract ((t407.size:Int):Int).toNat t407.size) t411 t412 t415 t416 t417 _ ?side1 ?side2 A11.out).mono ?_
     (case side1=>exact Kd.C_nil _ _)
     (case side2=>exact Nat.le_refl _)
     rintro e w16 ⟨v413,rfl,ho0,hb⟩
     refine ⟨_,rfl,?_⟩
     have n0_:=Aside0.mk (Kd.R_lower ho0 (below_size (by repeat (first|(with_reducible first|exact HB.out|apply below_alloc|apply pw_below_drewN|apply below_drew1|refine below_set ?_ GE406.out)|exact HB.out))))
     have n1_:=Aside0.mk (blk_below (g:=gb406) (o:=.cells #[.string (⟨#[]⟩:ByteArray), .slice none 0 0, .bool false, .string (⟨#[]⟩:ByteArray)] 24 (0,0)) (by (with_reducible repeat (first|refine blk_drewN ?_ _|refine blk_drew ?_|refine blk_alloc ?_ _));exact BK406.out) hb)
     have n2_:=Aside0.mk (below_step (by repeat (first|(with_reducible first|exact HB.out|apply below_alloc|apply pw_below_drewN|apply below_drew1|refine below_set ?_ GE406.out)|exact HB.out)) hb)
     clear BK406
     clear HB
     have HO414:=n0_
     have BK406:=n1_
     have HB:=n2_
     clear n0_ n1_ n2_
     (try clear hb)
     (try clear hb2)
     (try clear hk)
     (try clear hi)
     (try clear ho0)
     obtain ⟨Ao18,co18,eo18⟩:=Kd.R_slice HO414.out
     (first|subst eo18|(injection eo18 with f1_ f2_ f3_;have f4_:=f1_.symm;have f5_:=f3_.symm;clear f1_ f2_ f3_;subst f4_;subst f5_))
     refine hK.out _ _ trivial (fun hHeld=>?_)
     clear hK K
     refine norm_ (a':=?_) ?_ ?_
     rotate_left
     ·show Act.put _ (some 28) _ = _
      simp only [Act.put,List.setIfInBounds_toArray,List.set_cons_zero,List.set_cons_succ,i64_w,i32_w]
      rfl
     refine pure_ (i:=8) (N:=some 29) (v:=?_) (a':=?_) #[true,true,true,true,true,true,true,true,true,false,false,false] rfl rfl (any_of HT_.out (by kernel_rfl)) (fun _ _ _ h=>h) (Or.inl ⟨by rfl,?_⟩) ?_ ?_
     rotate_left
     ·intro w'
      go_simp
      with_reducible rfl
     rotate_left
     ·simp only [Act.put,List.setIfInBounds_toArray,List.set_cons_zero,List.set_cons_succ,i64_w,i32_w]
      rfl
     refine pure_ (i:=9) (N:=some 30) (v:=?_) (a':=?_) #[true,true,true,true,true,true,true,true,true,true,false,false] rfl rfl (any_of HT_.out (by kernel_rfl)) (fun _ _ _ h=>h) (Or.inl ⟨by rfl,?_⟩) ?_ ?_
     rotate_left
     ·intro w'
      go_simp
      with_reducible rfl
     rotate_left
     ·simp only [Act.put,List.setIfInBounds_toArray,List.set_cons_zero,List.set_cons_succ,i64_w,i32_w]
      rfl
     refine one_ (i:=10) (N:=none) #[true,true,true,true,true,true,true,true,true,true,true,false] rfl rfl (one_of HT_.out (by kernel_rfl)) (by decide) (fun K hK=>?_)
     have hs17:w16.cell? ⟨gb406,0,none⟩ = some (.string (⟨#[]⟩:ByteArray)):=(blk_cell BK406.out 0).trans rfl
     have hfs17:=blk_frozen BK406.out 0
     have hs19:w16.cell? ⟨gb406,1,none⟩ = some (.slice none 0 0):=(blk_cell BK406.out 1).trans rfl
     have hfs19:=blk_frozen BK406.out 1
     have hs20:w16.cell? ⟨gb406,2,none⟩ = some (.bool false):=(blk_cell BK406.out 2).trans rfl
     have hfs20:=blk_frozen BK406.out 2
     have hs21:w16.cell? ⟨gb406,3,none⟩ = some (.string (⟨#[]⟩:ByteArray)):=(blk_cell BK406.out 3).trans rfl
     have hfs21:=blk_frozen BK406.out 3
     refine skip_ (w1:=?_) (by rfl) rfl ?_ ?_
     rotate_left
     ·go_simp
      rfl
     refine hK.out _ _ trivial (fun hHeld=>?_)
     clear hK K
     refine pure_ (i:=11) (N:=some 3) (v:=?_) (a':=?_) #[true,true,true,true,true,true,true,true,true,true,true,true] rfl rfl (any_of HT_.out (by kernel_rfl)) (fun _ _ _ h=>h) (Or.inl ⟨by rfl,?_⟩) ?_ ?_
     rotate_left
     ·intro w'
      go_simp
      with_reducible rfl
     rotate_left
     ·simp only [Act.put,List.setIfInBounds_toArray,List.set_cons_zero,List.set_cons_succ,i64_w,i32_w]
      rfl
     refine done_ (done_of HT_.out (by kernel_rfl)) ?_
     try go_wp2
     refine bodyPost_ret (results_ct rfl _ _ gb406 24 #[.string t411, .slice Ao18 t412.length co18, .bool t415, .string t416] (0,0) _ rfl (by (with_reducible repeat (first|refine blk_drewN ?_ _|refine blk_drew ?_|refine blk_alloc ?_ _));refine blk_put (cs:=#[.string t411, .slice Ao18 t412.length co18, .bool t415, .string (⟨#[]⟩:ByteArray)]) ?_ 3 _ rfl;(with_reducible repeat (first|refine blk_drewN ?_ _|refine blk_drew ?_|refine blk_alloc ?_ _));refine blk_put (cs:=#[.string t411, .slice Ao18 t412.length co18, .bool false, .string (⟨#[]⟩:ByteArray)]) ?_ 2 _ rfl;(with_reducible repeat (first|refine blk_drewN ?_ _|refine blk_drew ?_|refine blk_alloc ?_ _));refine blk_put (cs:=#[.string t411, .slice none 0 0, .bool false, .string (⟨#[]⟩:ByteArray)]) ?_ 1 _ rfl;(with_reducible repeat (first|refine blk_drewN ?_ _|refine blk_drew ?_|refine blk_alloc ?_ _));refine blk_put (cs:=#[.string (⟨#[]⟩:ByteArray), .slice none 0 0, .bool false, .string (⟨#[]⟩:ByteArray)]) ?_ 0 _ rfl;(with_reducible repeat (first|refine blk_drewN ?_ _|refine blk_drew ?_|refine blk_alloc ?_ _));exact BK406.out) Tryd.underlying24 rfl (by kernel_rfl)) rfl ?_
     exact ⟨_,by first|rfl|(simp <;> rfl)|(simp [*] <;> rfl),by (with_reducible repeat (first|apply Kd.R_alloc|apply Kd.R_drewN|apply Kd.R_drew));exact Kd.R_mono (Kd.R_far (p:=⟨gb406,3,none⟩) (Kd.R_far (p:=⟨gb406,2,none⟩) (Kd.R_far (p:=⟨gb406,1,none⟩) (Kd.R_far (p:=⟨gb406,0,none⟩) (Kd.R_types HO414.out BK406.out (by decide)) (fun _ hk=>hk.2) (.string t411)) (fun _ hk=>hk.2) (.slice Ao18 t412.length co18)) (fun _ hk=>hk.2) (.bool t415)) (fun _ hk=>hk.2) (.string t416)) (fun _ hk=>trivial),by repeat (first|(with_reducible first|exact HB.out|apply below_alloc|apply pw_below_drewN|apply below_drew1|refine below_set ?_ GE406.out)|exact HB.out)⟩
    ·rw [if_neg c7] at H
     exact absurd H (by simp)
   ·rw [if_neg c6] at H
    exact absurd H (by simp)
  ·rw [if_neg c5] at H
   have c5b0:decide (t409 < 0) = false:=decide_eq_false c5
   clear c5
   by_cases c22:0 ≤ t409
   ·rw [if_pos c22] at H
    have c22b0:=eq_true c22
    have c22b1:=decide_eq_true c22
    clear c22
    by_cases c23:t409 ≤ (t407.size:Int)
    ·rw [if_pos c23] at H
     have c23b0:=eq_true c23
     have c23b1:=decide_eq_true c23
     clear c23
     replace H:=Option.bind_eq_some_iff.mp H
     obtain ⟨t418,A240,H⟩:=H
     replace H:((impl_readWay.f k t418 ([]:List ByteArray) (t407.extract (t409:Int).toNat t407.size)).bind fun bt419=>(some (bt419.1,bt419.2.1,bt419.2.2.1,bt419.2.2.2.1,bt419.2.2.2.2))) = some (r1,r2,r3,r4,r5):=H
     have A24:=Aside0.mk A240
     clear A240
     have c25b0:=eq_true (of_decide_eq_true (by first|(with_reducible assumption)|assumption):0 ≤ t409)
     have c26b0:=eq_true (of_decide_eq_true (by first|(with_reducible assumption)|assumption):t409 ≤ (t407.size:Int))
     replace H:=Option.bind_eq_some_iff.mp H
     obtain ⟨⟨t419,t420,t423,t424,t425⟩,A270,H⟩:=H
     replace H:(some (t419,t420,t423,t424,t425)) = some (r1,r2,r3,r4,r5):=H
     have A27:=Aside0.mk A270
     clear A270
     simp only [Option.some.injEq,Prod.mk.injEq] at H
     obtain ⟨rfl,rfl,rfl,rfl,rfl⟩:=H
     go_enter Tryd.func22,Tryd.ntmps22
     try go_wp2_with (first|((with_reducible refine gate_dst (N:=2) rfl ?_);refine box_event ?hg (N:=2) ?hd (cs:=#[.string (⟨#[]⟩:ByteArray), .slice none 0 0, .bool false, .string (⟨#[]⟩:ByteArray)]) (t:=24) ?hr ?_;(case hd=>rfl);(case hg=>rfl);(case hr=>first|(go_simp;done)|(go_simp;rfl));intro gb406 hg w28 hbox hb;have n0_:=Aside0.mk (below_step (by repeat (first|(with_reducible first|exact HB.out|apply below_alloc|apply pw_below_drewN|apply below_drew1)|exact HB.out)) hb);have n1_:=Aside0.mk (hbox);have n2_:=Aside0.mk ((by rw [hg];exact (below_size (by repeat (first|(with_reducible first|exact HB.out|apply below_alloc|apply pw_below_drewN|apply below_drew1)|exact HB.out))):w.heap.size ≤ gb406));have n3_:=n2_;clear HB;have HB:=n0_;have BK406:=n1_;have GW406:=n2_;have GE406:=n3_;clear n0_ n1_ n2_ n3_;clear hb hbox hg)|((with_reducible refine gate_callee (f:=41) rfl ?_);refine goesL_ (some 9) rfl rfl Tryd.func41 (by kernel_rfl) rfl #[.string a0, .string (⟨#[47,47]⟩:ByteArray)] rfl (by (try simp only [List.map_toArray,List.map_cons,List.map_nil]);first|done|rfl|(simp only [List.length_drop,List.length_take];rfl)|(simp [Act.eval,Array.getD_eq_getD_getElem?];done)) ?_;(with_reducible refine (strings_CutPrefix.calls a0 (⟨#[47,47]⟩:ByteArray) t407 true _ A2.out).mono ?_);rintro e w' ⟨rfl,⟨nd,rfl⟩⟩;refine ⟨_,rfl,?_⟩;(try (rw [drewN_self w28];generalize hq_:World.drewN w28 _ = w28;have n0_:Aside0 (w28.heap[gb406]? = some (.cells #[.string (⟨#[]⟩:ByteArray), .slice none 0 0, .bool false, .string (⟨#[]⟩:ByteArray)] 24 (0,0))):=⟨by rw [← hq_];exact (by (with_reducible repeat (first|refine blk_drewN ?_ _|refine blk_drew ?_|refine blk_alloc ?_ _));exact BK406.out)⟩;have n1_:Aside0 (Below w.heap.size w w28):=⟨by rw [← hq_];exact (by repeat (first|(with_reducible first|exact HB.out|apply below_alloc|apply pw_below_drewN|apply below_drew1|refine below_set ?_ GE406.out)|exact HB.out))⟩;clear BK406 HB hq_;have BK406:=n0_;have HB:=n1_;clear n0_ n1_)))|((with_reducible refine gate_callee (f:=42) rfl ?_);refine goesL_ (some 16) rfl rfl Tryd.func42 (by kernel_rfl) rfl #[.string t407, .string (⟨#[47,63]⟩:ByteArray)] rfl (by (try simp only [List.map_toArray,List.map_cons,List.map_nil]);first|done|rfl|(simp only [List.length_drop,List.length_take];rfl)|(simp [Act.eval,Array.getD_eq_getD_getElem?];done)) ?_;(with_reducible refine (strings_IndexAny.calls t407 (⟨#[47,63]⟩:ByteArray) t409 _ A4.out).mono ?_);rintro e w29 ⟨rfl,hb⟩;refine ⟨_,rfl,?_⟩;have n0_:=Aside0.mk (blk_below (g:=gb406) (o:=.cells #[.string (⟨#[]⟩:ByteArray), .slice none 0 0, .bool false, .string (⟨#[]⟩:ByteArray)] 24 (0,0)) (by (with_reducible repeat (first|refine blk_drewN ?_ _|refine blk_drew ?_|refine blk_alloc ?_ _));exact BK406.out) hb);have n1_:=Aside0.mk (below_step (by repeat (first|(with_reducible first|exact HB.out|apply below_alloc|apply pw_below_drewN|apply below_drew1|refine below_set ?_ GE406.out)|exact HB.out)) hb);clear BK406;clear HB;have BK406:=n0_;have HB:=n1_;clear n0_ n1_;(try clear hb);(try clear hb2);(try clear hk);(try clear hi)))
     have n0_:=Aside0.mk (blk_drew BK406.out)
     have n1_:=Aside0.mk (below_drew1 HB.out)
     clear BK406
     clear HB
     have BK406:=n0_
     have HB:=n1_
     clear n0_ n1_
     refine start_ (n:=12) (S:=fun w'=>True) (ds:=[]) #[false,false,false,false,false,false,false,false,false,false,false,false] (by kernel_rfl) rfl rfl trivial (fun hHeld=>?_);refine with_tabW impl_readWhole.tab7 impl_readWhole.bits7 (fun HT_ HW_=>?_)
     generalize w29.drew = w30 at BK406 HB hHeld ⊢
     refine pure_ (i:=0) (N:=some 21) (v:=?_) (a':=?_) #[true,false,false,false,false,false,false,false,false,false,false,false] rfl rfl (any_of HT_.out (by kernel_rfl)) (fun _ _ _ h=>h) (Or.inl ⟨by rfl,?_⟩) ?_ ?_
     rotate_left
     ·intro w'
      go_simp
      with_reducible rfl
     rotate_left
     ·simp only [Act.put,List.setIfInBounds_toArray,List.set_cons_zero,List.set_cons_succ,i64_w,i32_w]
      rfl
     refine pure_ (i:=1) (N:=some 22) (v:=?_) (a':=?_) #[true,true,false,false,false,false,false,false,false,false,false,false] rfl rfl (any_of HT_.out (by kernel_rfl)) (fun _ _ _ h=>h) (Or.inl ⟨by rfl,?_⟩) ?_ ?_
     rotate_left
     ·intro w'
      go_simp
      with_reducible rfl
     rotate_left
     ·simp only [Act.put,List.setIfInBounds_toArray,List.set_cons_zero,List.set_cons_succ,i64_w,i32_w]
      rfl
     refine pure_ (i:=2) (N:=some 23) (v:=?_) (a':=?_) #[true,true,true,false,false,false,false,false,false,false,false,false] rfl rfl (any_of HT_.out (by kernel_rfl)) (fun _ _ _ h=>h) (Or.inl ⟨by rfl,?_⟩) ?_ ?_
     rotate_left
     ·intro w'
      go_simp
      with_reducible rfl
     rotate_left
     ·simp only [Act.put,List.setIfInBounds_toArray,List.set_cons_zero,List.set_cons_succ,i64_w,i32_w]
      rfl
     refine pure_ (i:=4) (N:=some 25) (v:=?_) (a':=?_) #[true,true,true,false,true,false,false,false,false,false,false,false] rfl rfl (any_of HT_.out (by kernel_rfl)) (fun _ _ _ h=>h) (Or.inl ⟨by rfl,?_⟩) ?_ ?_
     rotate_left
     ·intro w'
      go_simp
      with_reducible rfl
     rotate_left
     ·simp only [Act.put,List.setIfInBounds_toArray,List.set_cons_zero,List.set_cons_succ,i64_w,i32_w]
      rfl
     refine pure_ (i:=5) (N:=some 26) (v:=?_) (a':=?_) #[true,true,true,false,true,true,false,false,false,false,false,false] rfl rfl (any_of HT_.out (by kernel_rfl)) (fun _ _ _ h=>h) (Or.inl ⟨by rfl,?_⟩) ?_ ?_
     rotate_left
     ·intro w'
      go_simp
      with_reducible rfl
     rotate_left
     ·simp only [Act.put,List.setIfInBounds_toArray,List.set_cons_zero,List.set_cons_succ,i64_w,i32_w]
      rfl
     refine pure_ (i:=6) (N:=some 27) (v:=?_) (a':=?_) #[true,true,true,false,true,true,true,false,false,false,false,false] rfl rfl (any_of HT_.out (by kernel_rfl)) (fun _ _ _ h=>h) (Or.inl ⟨by rfl,?_⟩) ?_ ?_
     rotate_left
     ·intro w'
      go_simp
      with_reducible rfl
     rotate_left
     ·simp only [Act.put,List.setIfInBounds_toArray,List.set_cons_zero,List.set_cons_succ,i64_w,i32_w]
      rfl
     refine one_ (i:=3) (N:=some 24) #[true,true,true,true,true,true,true,false,false,false,false,false] rfl rfl (one_of HT_.out (by kernel_rfl)) (by decide) (fun K hK=>?_)
     refine goes_ Tryd.func44 (by kernel_rfl) rfl #[.string (t407.extract 0 (t409:Int).toNat)] (by rfl) rfl rfl (by (try simp only [List.map_toArray,List.map_cons,List.map_nil]);first|done|rfl|(simp only [List.length_drop,List.length_take];rfl)|(simp [Act.eval,Array.getD_eq_getD_getElem?];done)) ?_
     with_reducible refine (impl_smallLetters.calls (t407.extract 0 (t409:Int).toNat) t418 _ A24.out).mono ?_
     rintro e w31 ⟨rfl,hb⟩
     refine ⟨_,rfl,?_⟩
     have n0_:=Aside0.mk (blk_below (g:=gb406) (o:=.cells #[.string (⟨#[]⟩:ByteArray), .slice none 0 0, .bool false, .string (⟨#[]⟩:ByteArray)] 24 (0,0)) (by (with_reducible repeat (first|refine blk_drewN ?_ _|refine blk_drew ?_|refine blk_alloc ?_ _));exact BK406.out) hb)
     have n1_:=Aside0.mk (below_step (by repeat (first|(with_reducible first|exact HB.out|apply below_alloc|apply pw_below_drewN|apply below_drew1|refine below_set ?_ GE406.out)|exact HB.out)) hb)
     clear BK406
     clear HB
     have BK406:=n0_
     have HB:=n1_
     clear n0_ n1_
     (try clear hb)
     (try clear hb2)
     (try clear hk)
     (try clear hi)
     refine hK.out _ _ trivial (fun hHeld=>?_)
     clear hK K
     refine norm_ (a':=?_) ?_ ?_
     rotate_left
     ·show Act.put _ (some 24) _ = _
      simp only [Act.put,List.setIfInBounds_toArray,List.set_cons_zero,List.set_cons_succ,i64_w,i32_w]
      rfl
     refine one_ (i:=7) (N:=some 28) #[true,true,true,true,true,true,true,true,false,false,false,false] rfl rfl (one_of HT_.out (by kernel_rfl)) (by decide) (fun K hK=>?_)
     refine goes_ Tryd.func43 (by kernel_rfl) rfl #[.string t418, .slice none 0 0, .string (t407.extract (t409:Int).toNat t407.size)] (by rfl) rfl rfl (by (try simp only [List.map_toArray,List.map_cons,List.map_nil]);first|done|rfl|(simp only [List.length_drop,List.length_take];rfl)|(simp [Act.eval,Array.getD_eq_getD_getElem?];done)) ?_
     refine (impl_readWay.calls k t418 _ _ ([]:List ByteArray) (t407.extract (t409:Int).toNat t407.size) t419 t420 t423 t424 t425 _ ?side1 ?side2 A27.out).mono ?_
     (case side1=>exact Kd.C_nil _ _)
     (case side2=>exact Nat.le_refl _)
     rintro e w32 ⟨v421,rfl,ho0,hb⟩
     refine ⟨_,rfl,?_⟩
     have n0_:=Aside0.mk (Kd.R_lower ho0 (below_size (by repeat (first|(with_reducible first|exact HB.out|apply below_alloc|apply pw_below_drewN|apply below_drew1|refine below_set ?_ GE406.out)|exact HB.out))))
     have n1_:=Aside0.mk (blk_below (g:=gb406) (o:=.cells #[.string (⟨#[]⟩:ByteArray), .slice none 0 0, .bool false, .string (⟨#[]⟩:ByteArray)] 24 (0,0)) (by (with_reducible repeat (first|refine blk_drewN ?_ _|refine blk_drew ?_|refine blk_alloc ?_ _));exact BK406.out) hb)
     have n2_:=Aside0.mk (below_step (by repeat (first|(with_reducible first|exact HB.out|apply below_alloc|apply pw_below_drewN|apply below_drew1|refine below_set ?_ GE406.out)|exact HB.out)) hb)
     clear BK406
     clear HB
     have HO422:=n0_
     have BK406:=n1_
     have HB:=n2_
     clear n0_ n1_ n2_
     (try clear hb)
     (try clear hb2)
     (try clear hk)
     (try clear hi)
     (try clear ho0)
     obtain ⟨Ao34,co34,eo34⟩:=Kd.R_slice HO422.out
     (first|subst eo34|(injection eo34 with f1_ f2_ f3_;have f4_:=f1_.symm;have f5_:=f3_.symm;clear f1_ f2_ f3_;subst f4_;subst f5_))
     refine hK.out _ _ trivial (fun hHeld=>?_)
     clear hK K
     refine norm_ (a':=?_) ?_ ?_
     rotate_left
     ·show Act.put _ (some 28) _ = _
      simp only [Act.put,List.setIfInBounds_toArray,List.set_cons_zero,List.set_cons_succ,i64_w,i32_w]
      rfl
     refine pure_ (i:=8) (N:=some 29) (v:=?_) (a':=?_) #[true,true,true,true,true,true,true,true,true,false,false,false] rfl rfl (any_of HT_.out (by kernel_rfl)) (fun _ _ _ h=>h) (Or.inl ⟨by rfl,?_⟩) ?_ ?_
     rotate_left
     ·intro w'
      go_simp
      with_reducible rfl
     rotate_left
     ·simp only [Act.put,List.setIfInBounds_toArray,List.set_cons_zero,List.set_cons_succ,i64_w,i32_w]
      rfl
     refine pure_ (i:=9) (N:=some 30) (v:=?_) (a':=?_) #[true,true,true,true,true,true,true,true,true,true,false,false] rfl rfl (any_of HT_.out (by kernel_rfl)) (fun _ _ _ h=>h) (Or.inl ⟨by rfl,?_⟩) ?_ ?_
     rotate_left
     ·intro w'
      go_simp
      with_reducible rfl
     rotate_left
     ·simp only [Act.put,List.setIfInBounds_toArray,List.set_cons_zero,List.set_cons_succ,i64_w,i32_w]
      rfl
     refine one_ (i:=10) (N:=none) #[true,true,true,true,true,true,true,true,true,true,true,false] rfl rfl (one_of HT_.out (by kernel_rfl)) (by decide) (fun K hK=>?_)
     have hs33:w32.cell? ⟨gb406,0,none⟩ = some (.string (⟨#[]⟩:ByteArray)):=(blk_cell BK406.out 0).trans rfl
     have hfs33:=blk_frozen BK406.out 0
     have hs35:w32.cell? ⟨gb406,1,none⟩ = some (.slice none 0 0):=(blk_cell BK406.out 1).trans rfl
     have hfs35:=blk_frozen BK406.out 1
     have hs36:w32.cell? ⟨gb406,2,none⟩ = some (.bool false):=(blk_cell BK406.out 2).trans rfl
     have hfs36:=blk_frozen BK406.out 2
     have hs37:w32.cell? ⟨gb406,3,none⟩ = some (.string (⟨#[]⟩:ByteArray)):=(blk_cell BK406.out 3).trans rfl
     have hfs37:=blk_frozen BK406.out 3
     refine skip_ (w1:=?_) (by rfl) rfl ?_ ?_
     rotate_left
     ·go_simp
      rfl
     refine hK.out _ _ trivial (fun hHeld=>?_)
     clear hK K
     refine pure_ (i:=11) (N:=some 3) (v:=?_) (a':=?_) #[true,true,true,true,true,true,true,true,true,true,true,true] rfl rfl (any_of HT_.out (by kernel_rfl)) (fun _ _ _ h=>h) (Or.inl ⟨by rfl,?_⟩) ?_ ?_
     rotate_left
     ·intro w'
      go_simp
      with_reducible rfl
     rotate_left
     ·simp only [Act.put,List.setIfInBounds_toArray,List.set_cons_zero,List.set_cons_succ,i64_w,i32_w]
      rfl
     refine done_ (done_of HT_.out (by kernel_rfl)) ?_
     try go_wp2
     refine bodyPost_ret (results_ct rfl _ _ gb406 24 #[.string t419, .slice Ao34 t420.length co34, .bool t423, .string t424] (0,0) _ rfl (by (with_reducible repeat (first|refine blk_drewN ?_ _|refine blk_drew ?_|refine blk_alloc ?_ _));refine blk_put (cs:=#[.string t419, .slice Ao34 t420.length co34, .bool t423, .string (⟨#[]⟩:ByteArray)]) ?_ 3 _ rfl;(with_reducible repeat (first|refine blk_drewN ?_ _|refine blk_drew ?_|refine blk_alloc ?_ _));refine blk_put (cs:=#[.string t419, .slice Ao34 t420.length co34, .bool false, .string (⟨#[]⟩:ByteArray)]) ?_ 2 _ rfl;(with_reducible repeat (first|refine blk_drewN ?_ _|refine blk_drew ?_|refine blk_alloc ?_ _));refine blk_put (cs:=#[.string t419, .slice none 0 0, .bool false, .string (⟨#[]⟩:ByteArray)]) ?_ 1 _ rfl;(with_reducible repeat (first|refine blk_drewN ?_ _|refine blk_drew ?_|refine blk_alloc ?_ _));refine blk_put (cs:=#[.string (⟨#[]⟩:ByteArray), .slice none 0 0, .bool false, .string (⟨#[]⟩:ByteArray)]) ?_ 0 _ rfl;(with_reducible repeat (first|refine blk_drewN ?_ _|refine blk_drew ?_|refine blk_alloc ?_ _));exact BK406.out) Tryd.underlying24 rfl (by kernel_rfl)) rfl ?_
     exact ⟨_,by first|rfl|(simp <;> rfl)|(simp [*] <;> rfl),by (with_reducible repeat (first|apply Kd.R_alloc|apply Kd.R_drewN|apply Kd.R_drew));exact Kd.R_mono (Kd.R_far (p:=⟨gb406,3,none⟩) (Kd.R_far (p:=⟨gb406,2,none⟩) (Kd.R_far (p:=⟨gb406,1,none⟩) (Kd.R_far (p:=⟨gb406,0,none⟩) (Kd.R_types HO422.out BK406.out (by decide)) (fun _ hk=>hk.2) (.string t419)) (fun _ hk=>hk.2) (.slice Ao34 t420.length co34)) (fun _ hk=>hk.2) (.bool t423)) (fun _ hk=>hk.2) (.string t424)) (fun _ hk=>trivial),by repeat (first|(with_reducible first|exact HB.out|apply below_alloc|apply pw_below_drewN|apply below_drew1|refine below_set ?_ GE406.out)|exact HB.out)⟩
    ·rw [if_neg c23] at H
     exact absurd H (by simp)
   ·rw [if_neg c22] at H
    exact absurd H (by simp)
 ·replace c3:=Bool.eq_false_iff.mpr c3
  subst c3
  have H1:(some ((⟨#[]⟩:ByteArray),([]:List ByteArray),false,(⟨#[]⟩:ByteArray),false)) = some (r1,r2,r3,r4,r5):=by rw [if_neg (show ¬ (false = true) by decide)] at H;exact H
  clear H
  have H:=H1
  clear H1
  simp only [Option.some.injEq,Prod.mk.injEq] at H
  obtain ⟨rfl,rfl,rfl,rfl,rfl⟩:=H
  go_enter Tryd.func22,Tryd.ntmps22
  go_wp2_with (first|((with_reducible refine gate_dst (N:=2) rfl ?_);refine box_event ?hg (N:=2) ?hd (cs:=#[.string (⟨#[]⟩:ByteArray), .slice none 0 0, .bool false, .string (⟨#[]⟩:ByteArray)]) (t:=24) ?hr ?_;(case hd=>rfl);(case hg=>rfl);(case hr=>first|(go_simp;done)|(go_simp;rfl));intro gb406 hg w38 hbox hb;have n0_:=Aside0.mk (below_step (by repeat (first|(with_reducible first|exact HB.out|apply below_alloc|apply pw_below_drewN|apply below_drew1)|exact HB.out)) hb);have n1_:=Aside0.mk (hbox);have n2_:=Aside0.mk ((by rw [hg];exact (below_size (by repeat (first|(with_reducible first|exact HB.out|apply below_alloc|apply pw_below_drewN|apply below_drew1)|exact HB.out))):w.heap.size ≤ gb406));have n3_:=n2_;clear HB;have HB:=n0_;have BK406:=n1_;have GW406:=n2_;have GE406:=n3_;clear n0_ n1_ n2_ n3_;clear hb hbox hg)|((with_reducible refine gate_callee (f:=41) rfl ?_);refine goesL_ (some 9) rfl rfl Tryd.func41 (by kernel_rfl) rfl #[.string a0, .string (⟨#[47,47]⟩:ByteArray)] rfl (by (try simp only [List.map_toArray,List.map_cons,List.map_nil]);first|done|rfl|(simp only [List.length_drop,List.length_take];rfl)|(simp [Act.eval,Array.getD_eq_getD_getElem?];done)) ?_;(with_reducible refine (strings_CutPrefix.calls a0 (⟨#[47,47]⟩:ByteArray) t407 false _ A2.out).mono ?_);rintro e w' ⟨rfl,⟨nd,rfl⟩⟩;refine ⟨_,rfl,?_⟩;(try (rw [drewN_self w38];generalize hq_:World.drewN w38 _ = w38;have n0_:Aside0 (w38.heap[gb406]? = some (.cells #[.string (⟨#[]⟩:ByteArray), .slice none 0 0, .bool false, .string (⟨#[]⟩:ByteArray)] 24 (0,0))):=⟨by rw [← hq_];exact (by (with_reducible repeat (first|refine blk_drewN ?_ _|refine blk_drew ?_|refine blk_alloc ?_ _));exact BK406.out)⟩;have n1_:Aside0 (Below w.heap.size w w38):=⟨by rw [← hq_];exact (by repeat (first|(with_reducible first|exact HB.out|apply below_alloc|apply pw_below_drewN|apply below_drew1|refine below_set ?_ GE406.out)|exact HB.out))⟩;clear BK406 HB hq_;have BK406:=n0_;have HB:=n1_;clear n0_ n1_));have hcz39_0:w38.cell? ⟨gb406,0,none⟩ = some (.string (⟨#[]⟩:ByteArray)):=(blk_cell BK406.out 0).trans rfl;have hcz39_1:w38.cell? ⟨gb406,1,none⟩ = some (.slice none 0 0):=(blk_cell BK406.out 1).trans rfl;have hcz39_2:w38.cell? ⟨gb406,2,none⟩ = some (.bool false):=(blk_cell BK406.out 2).trans rfl;have hcz39_3:w38.cell? ⟨gb406,3,none⟩ = some (.string (⟨#[]⟩:ByteArray)):=(blk_cell BK406.out 3).trans rfl;have hfz39_0:=blk_frozen BK406.out 0;have hfz39_1:=blk_frozen BK406.out 1;have hfz39_2:=blk_frozen BK406.out 2;have hfz39_3:=blk_frozen BK406.out 3))
  refine bodyPost_ret (results_ct rfl _ _ gb406 24 #[.string (⟨#[]⟩:ByteArray), .slice none 0 0, .bool false, .string (⟨#[]⟩:ByteArray)] (0,0) _ rfl (by (with_reducible repeat (first|refine blk_drewN ?_ _|refine blk_drew ?_|refine blk_alloc ?_ _));refine blk_put (cs:=#[.string (⟨#[]⟩:ByteArray), .slice none 0 0, .bool false, .string (⟨#[]⟩:ByteArray)]) ?_ 3 _ rfl;(with_reducible repeat (first|refine blk_drewN ?_ _|refine blk_drew ?_|refine blk_alloc ?_ _));refine blk_put (cs:=#[.string (⟨#[]⟩:ByteArray), .slice none 0 0, .bool false, .string (⟨#[]⟩:ByteArray)]) ?_ 2 _ rfl;(with_reducible repeat (first|refine blk_drewN ?_ _|refine blk_drew ?_|refine blk_alloc ?_ _));refine blk_put (cs:=#[.string (⟨#[]⟩:ByteArray), .slice none 0 0, .bool false, .string (⟨#[]⟩:ByteArray)]) ?_ 1 _ rfl;(with_reducible repeat (first|refine blk_drewN ?_ _|refine blk_drew ?_|refine blk_alloc ?_ _));refine blk_put (cs:=#[.string (⟨#[]⟩:ByteArray), .slice none 0 0, .bool false, .string (⟨#[]⟩:ByteArray)]) ?_ 0 _ rfl;(with_reducible repeat (first|refine blk_drewN ?_ _|refine blk_drew ?_|refine blk_alloc ?_ _));exact BK406.out) Tryd.underlying24 rfl (by kernel_rfl)) rfl ?_
  exact ⟨_,by first|rfl|(simp <;> rfl)|(simp [*] <;> rfl),by first|exact Kd.R_nil _ _ _ _ _|exact Kd.N_nil _ _ _ _ _|exact Kd.V_nil _ _ _ _ _|exact Kd.Q_nil _ _ _ _ _|exact Kd.S_nil _ _ _ _ _,by repeat (first|(with_reducible first|exact HB.out|apply below_alloc|apply pw_below_drewN|apply below_drew1|refine below_set ?_ GE406.out)|exact HB.out)⟩

/-! ### impl_AddrRead: function 9 -/
def impl_AddrRead.f (k:Nat) (a0:ByteArray):Option (ByteArray × List ByteArray × Bool × ByteArray × Bool):=if (a0.size:Int) > 60 then (some ((⟨#[]⟩:ByteArray),([]:List ByteArray),false,(⟨#[]⟩:ByteArray),false)) else ((strings_Cut.f a0 (⟨#[35]⟩:ByteArray)).bind fun bt427=>((impl_readWhole.f k bt427.1).bind fun bt430=>(some (bt430.1,bt430.2.1,bt430.2.2.1,bt430.2.2.2.1,bt430.2.2.2.2))))
theorem impl_AddrRead.mono:∀ a0 k,LeO (impl_AddrRead.f k a0) (impl_AddrRead.f (k + 1) a0):=by
 intro a0 k
 unfold impl_AddrRead.f
 repeat' first
   | (with_reducible exact impl_readWhole.mono _ _)
   | (with_reducible exact LeO.refl _)
   | (with_reducible exact LeO.none _)
   | (with_reducible refine LeO.ite ?_ ?_)
   | (with_reducible refine LeO.bind ?_ (fun _=>?_))
   | exact impl_readWhole.mono _ _
   | exact LeO.none _
   | refine LeO.ite ?_ ?_
   | refine LeO.bind ?_ (fun _=>?_)
theorem impl_AddrRead.calls (k:Nat) (a0:ByteArray) (r1:ByteArray) (r2:List ByteArray) (r3:Bool) (r4:ByteArray) (r5:Bool) (w:World) (h:impl_AddrRead.f k a0 = some (r1,r2,r3,r4,r5)) :
  Calls Tryd.prog 9 #[.string a0] w fun e w'=>∃ v1_:Value,e = .returned (.tuple #[.agg #[.string r1,v1_, .bool r3, .string r4], .bool r5]) ∧ Kd.R Kd.string 9 w' w.heap.size (fun _=>True) v1_ r2 ∧ Below w.heap.size w w':=by
 have hu24:=Tryd.underlying24
 have HB:=Aside0.mk (Below.refl w.heap.size w)
 have H:(if (a0.size:Int) > 60 then (some ((⟨#[]⟩:ByteArray),([]:List ByteArray),false,(⟨#[]⟩:ByteArray),false)) else ((strings_Cut.f a0 (⟨#[35]⟩:ByteArray)).bind fun bt427=>((impl_readWhole.f k bt427.1).bind fun bt430=>(some (bt430.1,bt430.2.1,bt430.2.2.1,bt430.2.2.2.1,bt430.2.2.2.2))))) = some (r1,r2,r3,r4,r5):=h
 clear h
 by_cases c2:(a0.size:Int) > 60
 ·rw [if_pos c2] at H
  have c2b0:decide (60 < (a0.size:Int)) = true:=decide_eq_true c2
  have c2b1:decide (60 < a0.size) = true:=decide_eq_true (by omega)
  clear c2
  simp only [Option.some.injEq,Prod.mk.injEq] at H
  obtain ⟨rfl,rfl,rfl,rfl,rfl⟩:=H
  go_enter Tryd.func9,Tryd.ntmps9
  go_wp2_with (first|((with_reducible refine gate_dst (N:=2) rfl ?_);refine box_event ?hg (N:=2) ?hd (cs:=#[.string (⟨#[]⟩:ByteArray), .slice none 0 0, .bool false, .string (⟨#[]⟩:ByteArray)]) (t:=24) ?hr ?_;(case hd=>rfl);(case hg=>rfl);(case hr=>first|(go_simp;done)|(go_simp;rfl));intro gb426 hg w3 hbox hb;have n0_:=Aside0.mk (below_step (by repeat (first|(with_reducible first|exact HB.out|apply below_alloc|apply pw_below_drewN|apply below_drew1)|exact HB.out)) hb);have n1_:=Aside0.mk (hbox);have n2_:=Aside0.mk ((by rw [hg];exact (below_size (by repeat (first|(with_reducible first|exact HB.out|apply below_alloc|apply pw_below_drewN|apply below_drew1)|exact HB.out))):w.heap.size ≤ gb426));have n3_:=n2_;clear HB;have HB:=n0_;have BK426:=n1_;have GW426:=n2_;have GE426:=n3_;clear n0_ n1_ n2_ n3_;clear hb hbox hg;have hcz4_0:w3.cell? ⟨gb426,0,none⟩ = some (.string (⟨#[]⟩:ByteArray)):=(blk_cell BK426.out 0).trans rfl;have hcz4_1:w3.cell? ⟨gb426,1,none⟩ = some (.slice none 0 0):=(blk_cell BK426.out 1).trans rfl;have hcz4_2:w3.cell? ⟨gb426,2,none⟩ = some (.bool false):=(blk_cell BK426.out 2).trans rfl;have hcz4_3:w3.cell? ⟨gb426,3,none⟩ = some (.string (⟨#[]⟩:ByteArray)):=(blk_cell BK426.out 3).trans rfl;have hfz4_0:=blk_frozen BK426.out 0;have hfz4_1:=blk_frozen BK426.out 1;have hfz4_2:=blk_frozen BK426.out 2;have hfz4_3:=blk_frozen BK426.out 3))
  refine bodyPost_ret (results_ct rfl _ _ gb426 24 #[.string (⟨#[]⟩:ByteArray), .slice none 0 0, .bool false, .string (⟨#[]⟩:ByteArray)] (0,0) _ rfl (by (with_reducible repeat (first|refine blk_drewN ?_ _|refine blk_drew ?_|refine blk_alloc ?_ _));refine blk_put (cs:=#[.string (⟨#[]⟩:ByteArray), .slice none 0 0, .bool false, .string (⟨#[]⟩:ByteArray)]) ?_ 3 _ rfl;(with_reducible repeat (first|refine blk_drewN ?_ _|refine blk_drew ?_|refine blk_alloc ?_ _));refine blk_put (cs:=#[.string (⟨#[]⟩:ByteArray), .slice none 0 0, .bool false, .string (⟨#[]⟩:ByteArray)]) ?_ 2 _ rfl;(with_reducible repeat (first|refine blk_drewN ?_ _|refine blk_drew ?_|refine blk_alloc ?_ _));refine blk_put (cs:=#[.string (⟨#[]⟩:ByteArray), .slice none 0 0, .bool false, .string (⟨#[]⟩:ByteArray)]) ?_ 1 _ rfl;(with_reducible repeat (first|refine blk_drewN ?_ _|refine blk_drew ?_|refine blk_alloc ?_ _));refine blk_put (cs:=#[.string (⟨#[]⟩:ByteArray), .slice none 0 0, .bool false, .string (⟨#[]⟩:ByteArray)]) ?_ 0 _ rfl;(with_reducible repeat (first|refine blk_drewN ?_ _|refine blk_drew ?_|refine blk_alloc ?_ _));exact BK426.out) Tryd.underlying24 rfl (by kernel_rfl)) rfl ?_
  exact ⟨_,by first|rfl|(simp <;> rfl)|(simp [*] <;> rfl),by first|exact Kd.R_nil _ _ _ _ _|exact Kd.N_nil _ _ _ _ _|exact Kd.V_nil _ _ _ _ _|exact Kd.Q_nil _ _ _ _ _|exact Kd.S_nil _ _ _ _ _,by repeat (first|(with_reducible first|exact HB.out|apply below_alloc|apply pw_below_drewN|apply below_drew1|refine below_set ?_ GE426.out)|exact HB.out)⟩
 ·rw [if_neg c2] at H
  have c2b0:decide (60 < (a0.size:Int)) = false:=decide_eq_false c2
  have c2b1:decide (60 < a0.size) = false:=decide_eq_false (by omega)
  clear c2
  replace H:=Option.bind_eq_some_iff.mp H
  obtain ⟨⟨t427,t428,t429⟩,A50,H⟩:=H
  replace H:((impl_readWhole.f k t427).bind fun bt430=>(some (bt430.1,bt430.2.1,bt430.2.2.1,bt430.2.2.2.1,bt430.2.2.2.2))) = some (r1,r2,r3,r4,r5):=H
  have A5:=Aside0.mk A50
  clear A50
  replace H:=Option.bind_eq_some_iff.mp H
  obtain ⟨⟨t430,t431,t434,t435,t436⟩,A60,H⟩:=H
  replace H:(some (t430,t431,t434,t435,t436)) = some (r1,r2,r3,r4,r5):=H
  have A6:=Aside0.mk A60
  clear A60
  simp only [Option.some.injEq,Prod.mk.injEq] at H
  obtain ⟨rfl,rfl,rfl,rfl,rfl⟩:=H
  go_enter Tryd.func9,Tryd.ntmps9
  go_wp2_with (first|((with_reducible refine gate_dst (N:=2) rfl ?_);refine box_event ?hg (N:=2) ?hd (cs:=#[.string (⟨#[]⟩:ByteArray), .slice none 0 0, .bool false, .string (⟨#[]⟩:ByteArray)]) (t:=24) ?hr ?_;(case hd=>rfl);(case hg=>rfl);(case hr=>first|(go_simp;done)|(go_simp;rfl));intro gb426 hg w7 hbox hb;have n0_:=Aside0.mk (below_step (by repeat (first|(with_reducible first|exact HB.out|apply below_alloc|apply pw_below_drewN|apply below_drew1)|exact HB.out)) hb);have n1_:=Aside0.mk (hbox);have n2_:=Aside0.mk ((by rw [hg];exact (below_size (by repeat (first|(with_reducible first|exact HB.out|apply below_alloc|apply pw_below_drewN|apply below_drew1)|exact HB.out))):w.heap.size ≤ gb426));have n3_:=n2_;clear HB;have HB:=n0_;have BK426:=n1_;have GW426:=n2_;have GE426:=n3_;clear n0_ n1_ n2_ n3_;clear hb hbox hg)|((with_reducible refine gate_callee (f:=21) rfl ?_);refine goesL_ (some 13) rfl rfl Tryd.func21 (by kernel_rfl) rfl #[.string a0, .string (⟨#[35]⟩:ByteArray)] rfl (by (try simp only [List.map_toArray,List.map_cons,List.map_nil]);first|done|rfl|(simp only [List.length_drop,List.length_take];rfl)) ?_;(with_reducible refine (strings_Cut.calls a0 (⟨#[35]⟩:ByteArray) t427 t428 t429 _ A5.out).mono ?_);rintro e w' ⟨rfl,⟨nd,rfl⟩⟩;refine ⟨_,rfl,?_⟩;(try (rw [drewN_self w7];generalize hq_:World.drewN w7 _ = w7;have n0_:Aside0 (w7.heap[gb426]? = some (.cells #[.string (⟨#[]⟩:ByteArray), .slice none 0 0, .bool false, .string (⟨#[]⟩:ByteArray)] 24 (0,0))):=⟨by rw [← hq_];exact (by (with_reducible repeat (first|refine blk_drewN ?_ _|refine blk_drew ?_|refine blk_alloc ?_ _));exact BK426.out)⟩;have n1_:Aside0 (Below w.heap.size w w7):=⟨by rw [← hq_];exact (by repeat (first|(with_reducible first|exact HB.out|apply below_alloc|apply pw_below_drewN|apply below_drew1|refine below_set ?_ GE426.out)|exact HB.out))⟩;clear BK426 HB hq_;have BK426:=n0_;have HB:=n1_;clear n0_ n1_)))|((with_reducible refine gate_callee (f:=22) rfl ?_);refine goesL_ (some 18) rfl rfl Tryd.func22 (by kernel_rfl) rfl #[.string t427] rfl (by (try simp only [List.map_toArray,List.map_cons,List.map_nil]);first|done|rfl|(simp only [List.length_drop,List.length_take];rfl)) ?_;(with_reducible refine (impl_readWhole.calls k t427 t430 t431 t434 t435 t436 _ A6.out).mono ?_);rintro e w8 ⟨v432,rfl,ho0,hb⟩;refine ⟨_,rfl,?_⟩;have n0_:=Aside0.mk (Kd.R_lower ho0 (below_size (by repeat (first|(with_reducible first|exact HB.out|apply below_alloc|apply pw_below_drewN|apply below_drew1|refine below_set ?_ GE426.out)|exact HB.out))));have n1_:=Aside0.mk (blk_below (g:=gb426) (o:=.cells #[.string (⟨#[]⟩:ByteArray), .slice none 0 0, .bool false, .string (⟨#[]⟩:ByteArray)] 24 (0,0)) (by (with_reducible repeat (first|refine blk_drewN ?_ _|refine blk_drew ?_|refine blk_alloc ?_ _));exact BK426.out) hb);have n2_:=Aside0.mk (below_step (by repeat (first|(with_reducible first|exact HB.out|apply below_alloc|apply pw_below_drewN|apply below_drew1|refine below_set ?_ GE426.out)|exact HB.out)) hb);clear BK426;clear HB;have HO433:=n0_;have BK426:=n1_;have HB:=n2_;clear n0_ n1_ n2_;(try clear hb);(try clear hb2);(try clear hk);(try clear hi);(try clear ho0);have hcz9_0:w8.cell? ⟨gb426,0,none⟩ = some (.string (⟨#[]⟩:ByteArray)):=(blk_cell BK426.out 0).trans rfl;have hcz9_1:w8.cell? ⟨gb426,1,none⟩ = some (.slice none 0 0):=(blk_cell BK426.out 1).trans rfl;have hcz9_2:w8.cell? ⟨gb426,2,none⟩ = some (.bool false):=(blk_cell BK426.out 2).trans rfl;have hcz9_3:w8.cell? ⟨gb426,3,none⟩ = some (.string (⟨#[]⟩:ByteArray)):=(blk_cell BK426.out 3).trans rfl;have hfz9_0:=blk_frozen BK426.out 0;have hfz9_1:=blk_frozen BK426.out 1;have hfz9_2:=blk_frozen BK426.out 2;have hfz9_3:=blk_frozen BK426.out 3;obtain ⟨Ao10,co10,eo10⟩:=Kd.R_slice HO433.out;subst eo10))
  refine bodyPost_ret (results_ct rfl _ _ gb426 24 #[.string t430, .slice Ao10 t431.length co10, .bool t434, .string t435] (0,0) _ rfl (by (with_reducible repeat (first|refine blk_drewN ?_ _|refine blk_drew ?_|refine blk_alloc ?_ _));refine blk_put (cs:=#[.string t430, .slice Ao10 t431.length co10, .bool t434, .string (⟨#[]⟩:ByteArray)]) ?_ 3 _ rfl;(with_reducible repeat (first|refine blk_drewN ?_ _|refine blk_drew ?_|refine blk_alloc ?_ _));refine blk_put (cs:=#[.string t430, .slice Ao10 t431.length co10, .bool false, .string (⟨#[]⟩:ByteArray)]) ?_ 2 _ rfl;(with_reducible repeat (first|refine blk_drewN ?_ _|refine blk_drew ?_|refine blk_alloc ?_ _));refine blk_put (cs:=#[.string t430, .slice none 0 0, .bool false, .string (⟨#[]⟩:ByteArray)]) ?_ 1 _ rfl;(with_reducible repeat (first|refine blk_drewN ?_ _|refine blk_drew ?_|refine blk_alloc ?_ _));refine blk_put (cs:=#[.string (⟨#[]⟩:ByteArray), .slice none 0 0, .bool false, .string (⟨#[]⟩:ByteArray)]) ?_ 0 _ rfl;(with_reducible repeat (first|refine blk_drewN ?_ _|refine blk_drew ?_|refine blk_alloc ?_ _));exact BK426.out) Tryd.underlying24 rfl (by kernel_rfl)) rfl ?_
  exact ⟨_,by first|rfl|(simp <;> rfl)|(simp [*] <;> rfl),by (with_reducible repeat (first|apply Kd.R_alloc|apply Kd.R_drewN|apply Kd.R_drew));exact Kd.R_mono (Kd.R_far (p:=⟨gb426,3,none⟩) (Kd.R_far (p:=⟨gb426,2,none⟩) (Kd.R_far (p:=⟨gb426,1,none⟩) (Kd.R_far (p:=⟨gb426,0,none⟩) (Kd.R_types HO433.out BK426.out (by decide)) (fun _ hk=>hk.2) (.string t430)) (fun _ hk=>hk.2) (.slice Ao10 t431.length co10)) (fun _ hk=>hk.2) (.bool t434)) (fun _ hk=>hk.2) (.string t435)) (fun _ hk=>trivial),by repeat (first|(with_reducible first|exact HB.out|apply below_alloc|apply pw_below_drewN|apply below_drew1|refine below_set ?_ GE426.out)|exact HB.out)⟩

/-! ### laws_lpTexts: function 31 -/
def laws_lpTexts.l0:Nat → List ByteArray → List ByteArray → Int → Option (Bool)
 | 0,_,_,_=>none
 | k + 1,x0,x1,x5=>if x5 < (x0.length:Int) then (if 0 ≤ x5 then (if x5 < (x1.length:Int) then (if (rdOf ByteArray.empty x0 x5).toList = (rdOf ByteArray.empty x1 x5).toList then (laws_lpTexts.l0 k x0 x1 (wrap64 (x5 + 1))) else (some false)) else (none)) else (none)) else (some true)
def laws_lpTexts.f (k:Nat) (l0:List ByteArray) (l1:List ByteArray):Option (Bool):=if (l0.length:Int) = (l1.length:Int) then (laws_lpTexts.l0 k l0 l1 0) else (some false)
theorem laws_lpTexts.mono_l:∀ k,(∀ y0 y1 y2,LeO (laws_lpTexts.l0 k y0 y1 y2) (laws_lpTexts.l0 (k + 1) y0 y1 y2))
 | 0=>fun _ _ _ r h=>by simp [laws_lpTexts.l0] at h
 | k + 1=>by
  have ih0:=laws_lpTexts.mono_l k
  ·intro y0 y1 y2
   unfold laws_lpTexts.l0
   repeat' first
   | (with_reducible exact ih0 _ _ _)
   | (with_reducible exact LeO.refl _)
   | (with_reducible exact LeO.none _)
   | (with_reducible refine LeO.ite ?_ ?_)
   | (with_reducible refine LeO.bind ?_ (fun _=>?_))
   | exact ih0 _ _ _
   | exact LeO.none _
   | refine LeO.ite ?_ ?_
   | refine LeO.bind ?_ (fun _=>?_)
theorem laws_lpTexts.mono:∀ a0 a1 k,LeO (laws_lpTexts.f k a0 a1) (laws_lpTexts.f (k + 1) a0 a1):=by
 intro a0 a1 k
 have ih0:=laws_lpTexts.mono_l k
 unfold laws_lpTexts.f
 repeat' first
   | (with_reducible exact ih0 _ _ _)
   | (with_reducible exact LeO.refl _)
   | (with_reducible exact LeO.none _)
   | (with_reducible refine LeO.ite ?_ ?_)
   | (with_reducible refine LeO.bind ?_ (fun _=>?_))
   | exact ih0 _ _ _
   | exact LeO.none _
   | refine LeO.ite ?_ ?_
   | refine LeO.bind ?_ (fun _=>?_)
theorem laws_lpTexts.calls (k:Nat) (A0:Option Addr) (c0:Nat) (l0:List ByteArray) (A1:Option Addr) (c1:Nat) (l1:List ByteArray) (r:Bool) (w:World) (hr0:Kd.C Kd.string w A0 l0.length l0) (hc0:l0.length ≤ c0) (hr1:Kd.C Kd.string w A1 l1.length l1) (hc1:l1.length ≤ c1) (h:laws_lpTexts.f k l0 l1 = some r) :
  Calls Tryd.prog 31 #[.slice A0 l0.length c0, .slice A1 l1.length c1] w fun e w'=>e = .returned (.bool r) ∧ Drawn0 w w':=by
 have HR0:=Aside0.mk hr0
 have HC0:=Aside0.mk hc0
 clear hr0 hc0
 have HR1:=Aside0.mk hr1
 have HC1:=Aside0.mk hc1
 clear hr1 hc1
 have H:(if (l0.length:Int) = (l1.length:Int) then (laws_lpTexts.l0 k l0 l1 0) else (some false)) = some r:=h
 clear h
 by_cases c3:(l0.length:Int) = (l1.length:Int)
 ·rw [if_pos c3] at H
  have c3b0:((l0.length:Int) == (l1.length:Int)) = true:=beq_iff_eq.mpr c3
  have c3b1:((l0.length:Int) != (l1.length:Int)) = false:=bne_eq_false_iff_eq.mpr c3
  have c3b2:(l0.length == l1.length) = true:=by first|simpa using c3|(simp at c3 ⊢;omega)
  clear c3
  have H':=Aside0.mk H
  clear H
  go_enter Tryd.func31,Tryd.ntmps31
  go_wp2
  repeat (go_quiet (fail);try go_wp2)
  go_loopg [5] k (fun kq v5 w'=>∃ (x5_1:Int),v5 = .int .i64 x5_1 ∧ Aside0 (laws_lpTexts.l0 kq l0 l1 x5_1 = some r) ∧ Aside0 (kq ≤ k) ∧ Drawn0 w w')
  case atStart=>exact ⟨(0),(by first|rfl|(simp;done)|(simp only [i64_w,i32_w];done)|(simp only [i64_w,i32_w];rfl)|(simp [*];done)|(simp [emp_bne,emp_beq];done)),H',⟨Nat.le_refl _⟩,by repeat (first|exact Drawn0.refl _|apply Drawn0.step)⟩
  case round =>
   clear H'
   try clear c1
   try clear p2
   try clear c3
   try clear c3b0
   try clear c3b1
   try clear c3b2
   obtain ⟨x5_1,rfl,HA,HK1,⟨m1,rfl⟩⟩:=hrel
   cases gk with
   | zero=>exact absurd HA.out (by simp [laws_lpTexts.l0])
   | succ k1 =>
    have H:=HA.out
    clear HA
    simp only [laws_lpTexts.l0] at H
    by_cases c4:x5_1 < (l0.length:Int)
    ·rw [if_pos c4] at H
     have c4b0:decide (x5_1 < (l0.length:Int)) = true:=decide_eq_true c4
     clear c4
     by_cases c5:0 ≤ x5_1
     ·rw [if_pos c5] at H
      have c5b0:decide (0 ≤ x5_1) = true:=decide_eq_true c5
      clear c5
      by_cases c6:x5_1 < (l1.length:Int)
      ·rw [if_pos c6] at H
       have c6b0:decide (x5_1 < (l1.length:Int)) = true:=decide_eq_true c6
       clear c6
       by_cases c7:(rdOf ByteArray.empty l0 x5_1).toList = (rdOf ByteArray.empty l1 x5_1).toList
       ·rw [if_pos c7] at H
        have c7b0:((rdOf ByteArray.empty l0 x5_1).toList == (rdOf ByteArray.empty l1 x5_1).toList) = true:=beq_iff_eq.mpr c7
        have c7b1:((rdOf ByteArray.empty l0 x5_1).toList != (rdOf ByteArray.empty l1 x5_1).toList) = false:=bne_eq_false_iff_eq.mpr c7
        clear c7
        have H':=Aside0.mk H
        clear H
        have p437:0 ≤ (x5_1:Int):=of_decide_eq_true (by first|(with_reducible assumption)|assumption)
        have q437:x5_1 < (l0.length:Int):=of_decide_eq_true (by first|(with_reducible assumption)|assumption)
        obtain ⟨ad437,e437,hx437_0⟩:=Kd.at_string HR0.out x5_1 p437 q437
        cases e437
        replace p437:=eq_true p437
        replace q437:=eq_true q437
        have p438:0 ≤ (x5_1:Int):=of_decide_eq_true (by first|(with_reducible assumption)|assumption)
        have q438:x5_1 < (l1.length:Int):=of_decide_eq_true (by first|(with_reducible assumption)|assumption)
        obtain ⟨ad438,e438,hx438_0⟩:=Kd.at_string HR1.out x5_1 p438 q438
        cases e438
        replace p438:=eq_true p438
        replace q438:=eq_true q438
        go_wp2
        repeat (go_quiet (fail);try go_wp2)
        go_roundg k1
        case measure=>have:=HK1.out;omega
        case rel=>exact ⟨(wrap64 (x5_1 + 1)),(by first|rfl|(simp;done)|(simp only [i64_w,i32_w];done)|(simp only [i64_w,i32_w];rfl)|(simp [*];done)|(simp [emp_bne,emp_beq];done)),H',⟨by have:=HK1.out;omega⟩,by repeat (first|exact Drawn0.refl _|apply Drawn0.step)⟩
       ·rw [if_neg c7] at H
        have c7b0:((rdOf ByteArray.empty l0 x5_1).toList == (rdOf ByteArray.empty l1 x5_1).toList) = false:=beq_eq_false_iff_ne.mpr c7
        have c7b1:((rdOf ByteArray.empty l0 x5_1).toList != (rdOf ByteArray.empty l1 x5_1).toList) = true:=bne_iff_ne.mpr c7
        obtain rfl:=Option.some.inj H
        have p437:0 ≤ (x5_1:Int):=of_decide_eq_true (by first|(with_reducible assumption)|assumption)
        have q437:x5_1 < (l0.length:Int):=of_decide_eq_true (by first|(with_reducible assumption)|assumption)
        obtain ⟨ad437,e437,hx437_0⟩:=Kd.at_string HR0.out x5_1 p437 q437
        cases e437
        replace p437:=eq_true p437
        replace q437:=eq_true q437
        have p438:0 ≤ (x5_1:Int):=of_decide_eq_true (by first|(with_reducible assumption)|assumption)
        have q438:x5_1 < (l1.length:Int):=of_decide_eq_true (by first|(with_reducible assumption)|assumption)
        obtain ⟨ad438,e438,hx438_0⟩:=Kd.at_string HR1.out x5_1 p438 q438
        cases e438
        replace p438:=eq_true p438
        replace q438:=eq_true q438
        go_wp2
        repeat (go_quiet (fail);try go_wp2)
        go_ret
        exact ⟨by first|rfl|(simp;done)|(simp only [i64_w,i32_w];done)|(simp only [i64_w,i32_w];rfl)|(simp [*];done)|(simp [emp_bne,emp_beq];done),by repeat (first|exact Drawn0.refl _|apply Drawn0.step)⟩
      ·rw [if_neg c6] at H
       exact absurd H (by simp)
     ·rw [if_neg c5] at H
      exact absurd H (by simp)
    ·rw [if_neg c4] at H
     have c4b0:decide (x5_1 < (l0.length:Int)) = false:=decide_eq_false c4
     clear c4
     obtain rfl:=Option.some.inj H
     go_wp2
     repeat (go_quiet (fail);try go_wp2)
     go_ret
     exact ⟨by first|rfl|(simp;done)|(simp only [i64_w,i32_w];done)|(simp only [i64_w,i32_w];rfl)|(simp [*];done)|(simp [emp_bne,emp_beq];done),by repeat (first|exact Drawn0.refl _|apply Drawn0.step)⟩
 ·rw [if_neg c3] at H
  have c3b0:((l0.length:Int) == (l1.length:Int)) = false:=beq_eq_false_iff_ne.mpr c3
  have c3b1:((l0.length:Int) != (l1.length:Int)) = true:=bne_iff_ne.mpr c3
  have c3b2:(l0.length == l1.length) = false:=by first|simpa using c3|(simp at c3 ⊢;omega)
  obtain rfl:=Option.some.inj H
  go_enter Tryd.func31,Tryd.ntmps31
  go_wp2
  repeat (go_quiet (fail);try go_wp2)
  go_ret
  exact ⟨by first|rfl|(simp;done)|(simp only [i64_w,i32_w];done)|(simp only [i64_w,i32_w];rfl)|(simp [*];done)|(simp [emp_bne,emp_beq];done),by repeat (first|exact Drawn0.refl _|apply Drawn0.step)⟩

/-! ### laws_lpAddr: function 16 -/
def laws_lpAddr.f (k:Nat) (a0_0:ByteArray) (l0_1:List ByteArray) (a0_2:Bool) (a0_3:ByteArray) (a1_0:ByteArray) (l1_1:List ByteArray) (a1_2:Bool) (a1_3:ByteArray):Option (Bool):=if a0_0.toList = a1_0.toList then (if (a0_2 == a1_2) = true then (if a0_3.toList = a1_3.toList then ((laws_lpTexts.f k l0_1 l1_1).bind fun t441=>(some t441)) else (some false)) else (some false)) else (some false)
theorem laws_lpAddr.mono:∀ a0 a1 a2 a3 a4 a5 a6 a7 k,LeO (laws_lpAddr.f k a0 a1 a2 a3 a4 a5 a6 a7) (laws_lpAddr.f (k + 1) a0 a1 a2 a3 a4 a5 a6 a7):=by
 intro a0 a1 a2 a3 a4 a5 a6 a7 k
 unfold laws_lpAddr.f
 repeat' first
   | (with_reducible exact laws_lpTexts.mono _ _ _)
   | (with_reducible exact LeO.refl _)
   | (with_reducible exact LeO.none _)
   | (with_reducible refine LeO.ite ?_ ?_)
   | (with_reducible refine LeO.bind ?_ (fun _=>?_))
   | exact laws_lpTexts.mono _ _ _
   | exact LeO.none _
   | refine LeO.ite ?_ ?_
   | refine LeO.bind ?_ (fun _=>?_)
theorem laws_lpAddr.calls (k:Nat) (a0_0:ByteArray) (A0_1:Option Addr) (c0_1:Nat) (l0_1:List ByteArray) (a0_2:Bool) (a0_3:ByteArray) (a1_0:ByteArray) (A1_1:Option Addr) (c1_1:Nat) (l1_1:List ByteArray) (a1_2:Bool) (a1_3:ByteArray) (r:Bool) (w:World) (hr0_1:Kd.C Kd.string w A0_1 l0_1.length l0_1) (hc0_1:l0_1.length ≤ c0_1) (hr1_1:Kd.C Kd.string w A1_1 l1_1.length l1_1) (hc1_1:l1_1.length ≤ c1_1) (h:laws_lpAddr.f k a0_0 l0_1 a0_2 a0_3 a1_0 l1_1 a1_2 a1_3 = some r) :
  Calls Tryd.prog 16 #[.agg #[.string a0_0, .slice A0_1 l0_1.length c0_1, .bool a0_2, .string a0_3], .agg #[.string a1_0, .slice A1_1 l1_1.length c1_1, .bool a1_2, .string a1_3]] w fun e w'=>e = .returned (.bool r) ∧ Below w.heap.size w w':=by
 have hu24:=Tryd.underlying24
 have HR0_1:=Aside0.mk hr0_1
 have HC0_1:=Aside0.mk hc0_1
 clear hr0_1 hc0_1
 have HR1_1:=Aside0.mk hr1_1
 have HC1_1:=Aside0.mk hc1_1
 clear hr1_1 hc1_1
 have HB:=Aside0.mk (Below.refl w.heap.size w)
 have H:(if a0_0.toList = a1_0.toList then (if (a0_2 == a1_2) = true then (if a0_3.toList = a1_3.toList then ((laws_lpTexts.f k l0_1 l1_1).bind fun t441=>(some t441)) else (some false)) else (some false)) else (some false)) = some r:=h
 clear h
 by_cases c3:a0_0.toList = a1_0.toList
 ·rw [if_pos c3] at H
  have c3b0:(a0_0.toList == a1_0.toList) = true:=beq_iff_eq.mpr c3
  have c3b1:(a0_0.toList != a1_0.toList) = false:=bne_eq_false_iff_eq.mpr c3
  clear c3
  by_cases c4:(a0_2 == a1_2) = true
  ·rw [if_pos c4] at H
   have c4b0:(a0_2 == a1_2) = true:=c4
   (try (have c4b1:decide (a0_2 = a1_2) = true:=by simpa using c4))
   (try (have c4b2:(a0_2 == a1_2) = true:=by simpa using c4))
   clear c4
   by_cases c5:a0_3.toList = a1_3.toList
   ·rw [if_pos c5] at H
    have c5b0:(a0_3.toList == a1_3.toList) = true:=beq_iff_eq.mpr c5
    have c5b1:(a0_3.toList != a1_3.toList) = false:=bne_eq_false_iff_eq.mpr c5
    clear c5
    replace H:=Option.bind_eq_some_iff.mp H
    obtain ⟨t441,A60,H⟩:=H
    replace H:(some t441) = some r:=H
    have A6:=Aside0.mk A60
    clear A60
    obtain rfl:=Option.some.inj H
    go_enter Tryd.func16,Tryd.ntmps16
    go_wp2_with (first|((with_reducible refine gate_dst (N:=2) rfl ?_);refine box_event ?hg (N:=2) ?hd (cs:=#[.string a0_0, .slice A0_1 l0_1.length c0_1, .bool a0_2, .string a0_3]) (t:=24) ?hr ?_;(case hd=>rfl);(case hg=>rfl);(case hr=>first|(go_simp;done)|(go_simp;rfl));intro gb439 hg w7 hbox hb;have n0_:=Aside0.mk (below_step (by repeat (first|(with_reducible first|exact HB.out|apply below_alloc|apply pw_below_drewN|apply below_drew1)|exact HB.out)) hb);have n1_:=Aside0.mk (hbox);have n2_:=Aside0.mk ((by rw [hg];exact (below_size (by repeat (first|(with_reducible first|exact HB.out|apply below_alloc|apply pw_below_drewN|apply below_drew1)|exact HB.out))):w.heap.size ≤ gb439));have n3_:=n2_;clear HB;have HB:=n0_;have BK439:=n1_;have GW439:=n2_;have GE439:=n3_;clear n0_ n1_ n2_ n3_;clear hb hbox hg)|((with_reducible refine gate_dst (N:=3) rfl ?_);refine box_event ?hg (N:=3) ?hd (cs:=#[.string a1_0, .slice A1_1 l1_1.length c1_1, .bool a1_2, .string a1_3]) (t:=24) ?hr ?_;(case hd=>rfl);(case hg=>rfl);(case hr=>first|(go_simp;done)|(go_simp;rfl));intro gb440 hg w8 hbox hb;have n0_:=Aside0.mk (blk_below (g:=gb439) (o:=.cells #[.string a0_0, .slice A0_1 l0_1.length c0_1, .bool a0_2, .string a0_3] 24 (0,0)) (by (with_reducible repeat (first|refine blk_drewN ?_ _|refine blk_drew ?_|refine blk_alloc ?_ _));exact BK439.out) hb);have n1_:=Aside0.mk (below_step (by repeat (first|(with_reducible first|exact HB.out|apply below_alloc|apply pw_below_drewN|apply below_drew1|refine below_set ?_ GE439.out)|exact HB.out)) hb);have n2_:=Aside0.mk (hbox);have n3_:=Aside0.mk ((by rw [hg];exact (below_size (by repeat (first|(with_reducible first|exact HB.out|apply below_alloc|apply pw_below_drewN|apply below_drew1|refine below_set ?_ GE439.out)|exact HB.out))):w.heap.size ≤ gb440));have n4_:=n3_;have n5_:=Aside0.mk ((by rw [hg];exact Nat.ne_of_lt (blk_lt (g:=gb439) (o:=.cells #[.string a0_0, .slice A0_1 l0_1.length c0_1, .bool a0_2, .string a0_3] 24 (0,0)) (by (with_reducible repeat (first|refine blk_drewN ?_ _|refine blk_drew ?_|refine blk_alloc ?_ _));exact BK439.out)):gb439 ≠ gb440));have n6_:=Aside0.mk ((by rw [hg];exact Nat.ne_of_gt (blk_lt (g:=gb439) (o:=.cells #[.string a0_0, .slice A0_1 l0_1.length c0_1, .bool a0_2, .string a0_3] 24 (0,0)) (by (with_reducible repeat (first|refine blk_drewN ?_ _|refine blk_drew ?_|refine blk_alloc ?_ _));exact BK439.out)):gb440 ≠ gb439));clear BK439;clear HB;have BK439:=n0_;have HB:=n1_;have BK440:=n2_;have GW440:=n3_;have GE440:=n4_;have NB439_440:=n5_;have NB440_439:=n6_;clear n0_ n1_ n2_ n3_ n4_ n5_ n6_;clear hb hbox hg;have hnb9:=NB439_440.out;have hnc9:=NB440_439.out;have hcz10_0:w8.cell? ⟨gb439,0,none⟩ = some (.string a0_0):=(blk_cell BK439.out 0).trans rfl;have hcz10_1:w8.cell? ⟨gb439,1,none⟩ = some (.slice A0_1 l0_1.length c0_1):=(blk_cell BK439.out 1).trans rfl;have hcz10_2:w8.cell? ⟨gb439,2,none⟩ = some (.bool a0_2):=(blk_cell BK439.out 2).trans rfl;have hcz10_3:w8.cell? ⟨gb439,3,none⟩ = some (.string a0_3):=(blk_cell BK439.out 3).trans rfl;have hfz10_0:=blk_frozen BK439.out 0;have hfz10_1:=blk_frozen BK439.out 1;have hfz10_2:=blk_frozen BK439.out 2;have hfz10_3:=blk_frozen BK439.out 3;have hcz11_0:w8.cell? ⟨gb440,0,none⟩ = some (.string a1_0):=(blk_cell BK440.out 0).trans rfl;have hcz11_1:w8.cell? ⟨gb440,1,none⟩ = some (.slice A1_1 l1_1.length c1_1):=(blk_cell BK440.out 1).trans rfl;have hcz11_2:w8.cell? ⟨gb440,2,none⟩ = some (.bool a1_2):=(blk_cell BK440.out 2).trans rfl;have hcz11_3:w8.cell? ⟨gb440,3,none⟩ = some (.string a1_3):=(blk_cell BK440.out 3).trans rfl;have hfz11_0:=blk_frozen BK440.out 0;have hfz11_1:=blk_frozen BK440.out 1;have hfz11_2:=blk_frozen BK440.out 2;have hfz11_3:=blk_frozen BK440.out 3)|(go_at_call 31;(with_reducible refine (laws_lpTexts.calls k _ _ l0_1 _ _ l1_1 t441 _ ?side1 ?side2 ?side3 ?side4 A6.out).mono ?_);(case side1=>repeat (first|exact (Kd.C_below HR0_1.out HB.out)|(with_reducible refine Kd.C_alloc ?_ _)|(with_reducible refine Kd.C_drewN ?_ _)|(with_reducible refine Kd.C_drew ?_)));(case side2=>exact HC0_1.out);(case side3=>repeat (first|exact (Kd.C_below HR1_1.out HB.out)|(with_reducible refine Kd.C_alloc ?_ _)|(with_reducible refine Kd.C_drewN ?_ _)|(with_reducible refine Kd.C_drew ?_)));(case side4=>exact HC1_1.out);rintro e w' ⟨rfl,⟨nd,rfl⟩⟩))
    go_ret
    exact ⟨by first|rfl|(simp <;> rfl)|(simp [*] <;> rfl),by repeat (first|(with_reducible first|exact HB.out|apply below_alloc|apply pw_below_drewN|apply below_drew1|refine below_set ?_ GE439.out|refine below_set ?_ GE440.out)|exact HB.out)⟩
   ·rw [if_neg c5] at H
    have c5b0:(a0_3.toList == a1_3.toList) = false:=beq_eq_false_iff_ne.mpr c5
    have c5b1:(a0_3.toList != a1_3.toList) = true:=bne_iff_ne.mpr c5
    obtain rfl:=Option.some.inj H
    go_enter Tryd.func16,Tryd.ntmps16
    go_wp2_with (first|((with_reducible refine gate_dst (N:=2) rfl ?_);refine box_event ?hg (N:=2) ?hd (cs:=#[.string a0_0, .slice A0_1 l0_1.length c0_1, .bool a0_2, .string a0_3]) (t:=24) ?hr ?_;(case hd=>rfl);(case hg=>rfl);(case hr=>first|(go_simp;done)|(go_simp;rfl));intro gb439 hg w12 hbox hb;have n0_:=Aside0.mk (below_step (by repeat (first|(with_reducible first|exact HB.out|apply below_alloc|apply pw_below_drewN|apply below_drew1)|exact HB.out)) hb);have n1_:=Aside0.mk (hbox);have n2_:=Aside0.mk ((by rw [hg];exact (below_size (by repeat (first|(with_reducible first|exact HB.out|apply below_alloc|apply pw_below_drewN|apply below_drew1)|exact HB.out))):w.heap.size ≤ gb439));have n3_:=n2_;clear HB;have HB:=n0_;have BK439:=n1_;have GW439:=n2_;have GE439:=n3_;clear n0_ n1_ n2_ n3_;clear hb hbox hg)|((with_reducible refine gate_dst (N:=3) rfl ?_);refine box_event ?hg (N:=3) ?hd (cs:=#[.string a1_0, .slice A1_1 l1_1.length c1_1, .bool a1_2, .string a1_3]) (t:=24) ?hr ?_;(case hd=>rfl);(case hg=>rfl);(case hr=>first|(go_simp;done)|(go_simp;rfl));intro gb440 hg w13 hbox hb;have n0_:=Aside0.mk (blk_below (g:=gb439) (o:=.cells #[.string a0_0, .slice A0_1 l0_1.length c0_1, .bool a0_2, .string a0_3] 24 (0,0)) (by (with_reducible repeat (first|refine blk_drewN ?_ _|refine blk_drew ?_|refine blk_alloc ?_ _));exact BK439.out) hb);have n1_:=Aside0.mk (below_step (by repeat (first|(with_reducible first|exact HB.out|apply below_alloc|apply pw_below_drewN|apply below_drew1|refine below_set ?_ GE439.out)|exact HB.out)) hb);have n2_:=Aside0.mk (hbox);have n3_:=Aside0.mk ((by rw [hg];exact (below_size (by repeat (first|(with_reducible first|exact HB.out|apply below_alloc|apply pw_below_drewN|apply below_drew1|refine below_set ?_ GE439.out)|exact HB.out))):w.heap.size ≤ gb440));have n4_:=n3_;have n5_:=Aside0.mk ((by rw [hg];exact Nat.ne_of_lt (blk_lt (g:=gb439) (o:=.cells #[.string a0_0, .slice A0_1 l0_1.length c0_1, .bool a0_2, .string a0_3] 24 (0,0)) (by (with_reducible repeat (first|refine blk_drewN ?_ _|refine blk_drew ?_|refine blk_alloc ?_ _));exact BK439.out)):gb439 ≠ gb440));have n6_:=Aside0.mk ((by rw [hg];exact Nat.ne_of_gt (blk_lt (g:=gb439) (o:=.cells #[.string a0_0, .slice A0_1 l0_1.length c0_1, .bool a0_2, .string a0_3] 24 (0,0)) (by (with_reducible repeat (first|refine blk_drewN ?_ _|refine blk_drew ?_|refine blk_alloc ?_ _));exact BK439.out)):gb440 ≠ gb439));clear BK439;clear HB;have BK439:=n0_;have HB:=n1_;have BK440:=n2_;have GW440:=n3_;have GE440:=n4_;have NB439_440:=n5_;have NB440_439:=n6_;clear n0_ n1_ n2_ n3_ n4_ n5_ n6_;clear hb hbox hg;have hnb14:=NB439_440.out;have hnc14:=NB440_439.out;have hcz15_0:w13.cell? ⟨gb439,0,none⟩ = some (.string a0_0):=(blk_cell BK439.out 0).trans rfl;have hcz15_1:w13.cell? ⟨gb439,1,none⟩ = some (.slice A0_1 l0_1.length c0_1):=(blk_cell BK439.out 1).trans rfl;have hcz15_2:w13.cell? ⟨gb439,2,none⟩ = some (.bool a0_2):=(blk_cell BK439.out 2).trans rfl;have hcz15_3:w13.cell? ⟨gb439,3,none⟩ = some (.string a0_3):=(blk_cell BK439.out 3).trans rfl;have hfz15_0:=blk_frozen BK439.out 0;have hfz15_1:=blk_frozen BK439.out 1;have hfz15_2:=blk_frozen BK439.out 2;have hfz15_3:=blk_frozen BK439.out 3;have hcz16_0:w13.cell? ⟨gb440,0,none⟩ = some (.string a1_0):=(blk_cell BK440.out 0).trans rfl;have hcz16_1:w13.cell? ⟨gb440,1,none⟩ = some (.slice A1_1 l1_1.length c1_1):=(blk_cell BK440.out 1).trans rfl;have hcz16_2:w13.cell? ⟨gb440,2,none⟩ = some (.bool a1_2):=(blk_cell BK440.out 2).trans rfl;have hcz16_3:w13.cell? ⟨gb440,3,none⟩ = some (.string a1_3):=(blk_cell BK440.out 3).trans rfl;have hfz16_0:=blk_frozen BK440.out 0;have hfz16_1:=blk_frozen BK440.out 1;have hfz16_2:=blk_frozen BK440.out 2;have hfz16_3:=blk_frozen BK440.out 3))
    go_ret
    exact ⟨by first|rfl|(simp <;> rfl)|(simp [*] <;> rfl),by repeat (first|(with_reducible first|exact HB.out|apply below_alloc|apply pw_below_drewN|apply below_drew1|refine below_set ?_ GE439.out|refine below_set ?_ GE440.out)|exact HB.out)⟩
  ·rw [if_neg c4] at H
   have c4b0:(a0_2 == a1_2) = false:=by simpa using c4
   (try (have c4b1:decide (a0_2 = a1_2) = false:=by simpa using c4))
   (try (have c4b2:(a0_2 == a1_2) = false:=by simpa using c4))
   (try (have c4b3:¬ (a0_2 = a1_2):=by simpa using c4))
   clear c4
   obtain rfl:=Option.some.inj H
   go_enter Tryd.func16,Tryd.ntmps16
   go_wp2_with (first|((with_reducible refine gate_dst (N:=2) rfl ?_);refine box_event ?hg (N:=2) ?hd (cs:=#[.string a0_0, .slice A0_1 l0_1.length c0_1, .bool a0_2, .string a0_3]) (t:=24) ?hr ?_;(case hd=>rfl);(case hg=>rfl);(case hr=>first|(go_simp;done)|(go_simp;rfl));intro gb439 hg w17 hbox hb;have n0_:=Aside0.mk (below_step (by repeat (first|(with_reducible first|exact HB.out|apply below_alloc|apply pw_below_drewN|apply below_drew1)|exact HB.out)) hb);have n1_:=Aside0.mk (hbox);have n2_:=Aside0.mk ((by rw [hg];exact (below_size (by repeat (first|(with_reducible first|exact HB.out|apply below_alloc|apply pw_below_drewN|apply below_drew1)|exact HB.out))):w.heap.size ≤ gb439));have n3_:=n2_;clear HB;have HB:=n0_;have BK439:=n1_;have GW439:=n2_;have GE439:=n3_;clear n0_ n1_ n2_ n3_;clear hb hbox hg)|((with_reducible refine gate_dst (N:=3) rfl ?_);refine box_event ?hg (N:=3) ?hd (cs:=#[.string a1_0, .slice A1_1 l1_1.length c1_1, .bool a1_2, .string a1_3]) (t:=24) ?hr ?_;(case hd=>rfl);(case hg=>rfl);(case hr=>first|(go_simp;done)|(go_simp;rfl));intro gb440 hg w18 hbox hb;have n0_:=Aside0.mk (blk_below (g:=gb439) (o:=.cells #[.string a0_0, .slice A0_1 l0_1.length c0_1, .bool a0_2, .string a0_3] 24 (0,0)) (by (with_reducible repeat (first|refine blk_drewN ?_ _|refine blk_drew ?_|refine blk_alloc ?_ _));exact BK439.out) hb);have n1_:=Aside0.mk (below_step (by repeat (first|(with_reducible first|exact HB.out|apply below_alloc|apply pw_below_drewN|apply below_drew1|refine below_set ?_ GE439.out)|exact HB.out)) hb);have n2_:=Aside0.mk (hbox);have n3_:=Aside0.mk ((by rw [hg];exact (below_size (by repeat (first|(with_reducible first|exact HB.out|apply below_alloc|apply pw_below_drewN|apply below_drew1|refine below_set ?_ GE439.out)|exact HB.out))):w.heap.size ≤ gb440));have n4_:=n3_;have n5_:=Aside0.mk ((by rw [hg];exact Nat.ne_of_lt (blk_lt (g:=gb439) (o:=.cells #[.string a0_0, .slice A0_1 l0_1.length c0_1, .bool a0_2, .string a0_3] 24 (0,0)) (by (with_reducible repeat (first|refine blk_drewN ?_ _|refine blk_drew ?_|refine blk_alloc ?_ _));exact BK439.out)):gb439 ≠ gb440));have n6_:=Aside0.mk ((by rw [hg];exact Nat.ne_of_gt (blk_lt (g:=gb439) (o:=.cells #[.string a0_0, .slice A0_1 l0_1.length c0_1, .bool a0_2, .string a0_3] 24 (0,0)) (by (with_reducible repeat (first|refine blk_drewN ?_ _|refine blk_drew ?_|refine blk_alloc ?_ _));exact BK439.out)):gb440 ≠ gb439));clear BK439;clear HB;have BK439:=n0_;have HB:=n1_;have BK440:=n2_;have GW440:=n3_;have GE440:=n4_;have NB439_440:=n5_;have NB440_439:=n6_;clear n0_ n1_ n2_ n3_ n4_ n5_ n6_;clear hb hbox hg;have hnb19:=NB439_440.out;have hnc19:=NB440_439.out;have hcz20_0:w18.cell? ⟨gb439,0,none⟩ = some (.string a0_0):=(blk_cell BK439.out 0).trans rfl;have hcz20_1:w18.cell? ⟨gb439,1,none⟩ = some (.slice A0_1 l0_1.length c0_1):=(blk_cell BK439.out 1).trans rfl;have hcz20_2:w18.cell? ⟨gb439,2,none⟩ = some (.bool a0_2):=(blk_cell BK439.out 2).trans rfl;have hcz20_3:w18.cell? ⟨gb439,3,none⟩ = some (.string a0_3):=(blk_cell BK439.out 3).trans rfl;have hfz20_0:=blk_frozen BK439.out 0;have hfz20_1:=blk_frozen BK439.out 1;have hfz20_2:=blk_frozen BK439.out 2;have hfz20_3:=blk_frozen BK439.out 3;have hcz21_0:w18.cell? ⟨gb440,0,none⟩ = some (.string a1_0):=(blk_cell BK440.out 0).trans rfl;have hcz21_1:w18.cell? ⟨gb440,1,none⟩ = some (.slice A1_1 l1_1.length c1_1):=(blk_cell BK440.out 1).trans rfl;have hcz21_2:w18.cell? ⟨gb440,2,none⟩ = some (.bool a1_2):=(blk_cell BK440.out 2).trans rfl;have hcz21_3:w18.cell? ⟨gb440,3,none⟩ = some (.string a1_3):=(blk_cell BK440.out 3).trans rfl;have hfz21_0:=blk_frozen BK440.out 0;have hfz21_1:=blk_frozen BK440.out 1;have hfz21_2:=blk_frozen BK440.out 2;have hfz21_3:=blk_frozen BK440.out 3))
   go_ret
   exact ⟨by first|rfl|(simp <;> rfl)|(simp [*] <;> rfl),by repeat (first|(with_reducible first|exact HB.out|apply below_alloc|apply pw_below_drewN|apply below_drew1|refine below_set ?_ GE439.out|refine below_set ?_ GE440.out)|exact HB.out)⟩
 ·rw [if_neg c3] at H
  have c3b0:(a0_0.toList == a1_0.toList) = false:=beq_eq_false_iff_ne.mpr c3
  have c3b1:(a0_0.toList != a1_0.toList) = true:=bne_iff_ne.mpr c3
  obtain rfl:=Option.some.inj H
  go_enter Tryd.func16,Tryd.ntmps16
  go_wp2_with (first|((with_reducible refine gate_dst (N:=2) rfl ?_);refine box_event ?hg (N:=2) ?hd (cs:=#[.string a0_0, .slice A0_1 l0_1.length c0_1, .bool a0_2, .string a0_3]) (t:=24) ?hr ?_;(case hd=>rfl);(case hg=>rfl);(case hr=>first|(go_simp;done)|(go_simp;rfl));intro gb439 hg w22 hbox hb;have n0_:=Aside0.mk (below_step (by repeat (first|(with_reducible first|exact HB.out|apply below_alloc|apply pw_below_drewN|apply below_drew1)|exact HB.out)) hb);have n1_:=Aside0.mk (hbox);have n2_:=Aside0.mk ((by rw [hg];exact (below_size (by repeat (first|(with_reducible first|exact HB.out|apply below_alloc|apply pw_below_drewN|apply below_drew1)|exact HB.out))):w.heap.size ≤ gb439));have n3_:=n2_;clear HB;have HB:=n0_;have BK439:=n1_;have GW439:=n2_;have GE439:=n3_;clear n0_ n1_ n2_ n3_;clear hb hbox hg)|((with_reducible refine gate_dst (N:=3) rfl ?_);refine box_event ?hg (N:=3) ?hd (cs:=#[.string a1_0, .slice A1_1 l1_1.length c1_1, .bool a1_2, .string a1_3]) (t:=24) ?hr ?_;(case hd=>rfl);(case hg=>rfl);(case hr=>first|(go_simp;done)|(go_simp;rfl));intro gb440 hg w23 hbox hb;have n0_:=Aside0.mk (blk_below (g:=gb439) (o:=.cells #[.string a0_0, .slice A0_1 l0_1.length c0_1, .bool a0_2, .string a0_3] 24 (0,0)) (by (with_reducible repeat (first|refine blk_drewN ?_ _|refine blk_drew ?_|refine blk_alloc ?_ _));exact BK439.out) hb);have n1_:=Aside0.mk (below_step (by repeat (first|(with_reducible first|exact HB.out|apply below_alloc|apply pw_below_drewN|apply below_drew1|refine below_set ?_ GE439.out)|exact HB.out)) hb);have n2_:=Aside0.mk (hbox);have n3_:=Aside0.mk ((by rw [hg];exact (below_size (by repeat (first|(with_reducible first|exact HB.out|apply below_alloc|apply pw_below_drewN|apply below_drew1|refine below_set ?_ GE439.out)|exact HB.out))):w.heap.size ≤ gb440));have n4_:=n3_;have n5_:=Aside0.mk ((by rw [hg];exact Nat.ne_of_lt (blk_lt (g:=gb439) (o:=.cells #[.string a0_0, .slice A0_1 l0_1.length c0_1, .bool a0_2, .string a0_3] 24 (0,0)) (by (with_reducible repeat (first|refine blk_drewN ?_ _|refine blk_drew ?_|refine blk_alloc ?_ _));exact BK439.out)):gb439 ≠ gb440));have n6_:=Aside0.mk ((by rw [hg];exact Nat.ne_of_gt (blk_lt (g:=gb439) (o:=.cells #[.string a0_0, .slice A0_1 l0_1.length c0_1, .bool a0_2, .string a0_3] 24 (0,0)) (by (with_reducible repeat (first|refine blk_drewN ?_ _|refine blk_drew ?_|refine blk_alloc ?_ _));exact BK439.out)):gb440 ≠ gb439));clear BK439;clear HB;have BK439:=n0_;have HB:=n1_;have BK440:=n2_;have GW440:=n3_;have GE440:=n4_;have NB439_440:=n5_;have NB440_439:=n6_;clear n0_ n1_ n2_ n3_ n4_ n5_ n6_;clear hb hbox hg;have hnb24:=NB439_440.out;have hnc24:=NB440_439.out;have hcz25_0:w23.cell? ⟨gb439,0,none⟩ = some (.string a0_0):=(blk_cell BK439.out 0).trans rfl;have hcz25_1:w23.cell? ⟨gb439,1,none⟩ = some (.slice A0_1 l0_1.length c0_1):=(blk_cell BK439.out 1).trans rfl;have hcz25_2:w23.cell? ⟨gb439,2,none⟩ = some (.bool a0_2):=(blk_cell BK439.out 2).trans rfl;have hcz25_3:w23.cell? ⟨gb439,3,none⟩ = some (.string a0_3):=(blk_cell BK439.out 3).trans rfl;have hfz25_0:=blk_frozen BK439.out 0;have hfz25_1:=blk_frozen BK439.out 1;have hfz25_2:=blk_frozen BK439.out 2;have hfz25_3:=blk_frozen BK439.out 3;have hcz26_0:w23.cell? ⟨gb440,0,none⟩ = some (.string a1_0):=(blk_cell BK440.out 0).trans rfl;have hcz26_1:w23.cell? ⟨gb440,1,none⟩ = some (.slice A1_1 l1_1.length c1_1):=(blk_cell BK440.out 1).trans rfl;have hcz26_2:w23.cell? ⟨gb440,2,none⟩ = some (.bool a1_2):=(blk_cell BK440.out 2).trans rfl;have hcz26_3:w23.cell? ⟨gb440,3,none⟩ = some (.string a1_3):=(blk_cell BK440.out 3).trans rfl;have hfz26_0:=blk_frozen BK440.out 0;have hfz26_1:=blk_frozen BK440.out 1;have hfz26_2:=blk_frozen BK440.out 2;have hfz26_3:=blk_frozen BK440.out 3))
  go_ret
  exact ⟨by first|rfl|(simp <;> rfl)|(simp [*] <;> rfl),by repeat (first|(with_reducible first|exact HB.out|apply below_alloc|apply pw_below_drewN|apply below_drew1|refine below_set ?_ GE439.out|refine below_set ?_ GE440.out)|exact HB.out)⟩

/-! ### laws_FnAddrGreat: function 6 -/
/-- The letters up to a stop are great. -/
def laws_FnAddrGreat.gr:List Int → List Int
 | []=>[]
 | b :: r=>if b = 47 ∨ b = 63 ∨ b = 35 then b :: r else (if 97 ≤ b ∧ b ≤ 122 then b - 32 else b) :: laws_FnAddrGreat.gr r
def laws_FnAddrGreat.great (s:ByteArray):ByteArray:=strOfNums ((bytesOf s).take 2 ++ laws_FnAddrGreat.gr ((bytesOf s).drop 2))
/-- What the law's way goes through; a way that would tell 'no' is left out. -/
def laws_FnAddrGreat.f (k:Nat) (l0:List Int):Option Bool :=
 if (l0.length:Int) > 1048576 then some true else
 (spec_DrawAddrRead.f k l0).bind fun t=>if t.size ≤ 1000000 then
 (spec_AddrRead.f k t).bind fun p=>(impl_AddrRead.f k t).bind fun q=>if q.2.2.2.2 = p.2.2.2.2 then
 (laws_lpAddr.f k q.1 q.2.1 q.2.2.1 q.2.2.2.1 p.1 p.2.1 p.2.2.1 p.2.2.2.1).bind fun e=>if e = true then
 if q.2.2.2.2 = true then
 (impl_AddrRead.f k (laws_FnAddrGreat.great t)).bind fun x=>if x.2.2.2.2 = true then
 laws_lpAddr.f k x.1 x.2.1 x.2.2.1 x.2.2.2.1 q.1 q.2.1 q.2.2.1 q.2.2.2.1
 else none else some true else none else none else none
/-- A variable of four cells that is made and written. -/
theorem laws_FnAddrGreat.put4 {w:World} {g:Nat} {t:TypeId} {a b c d:Value} (h:w.heap[g]? = some (.cells #[a,b,c,d] t (0,0))) (a' b' c' d':Value):((((w.setCell ⟨g,0,none⟩ a').setCell ⟨g,1,none⟩ b').setCell ⟨g,2,none⟩ c').setCell ⟨g,3,none⟩ d').heap[g]? = some (.cells #[a',b',c',d'] t (0,0)) :=
 blk_put (blk_put (blk_put (blk_put h 0 a' rfl) 1 b' rfl) 2 c' rfl) 3 d' rfl
theorem laws_FnAddrGreat.far4 {w:World} {g g':Nat} {t:TypeId} {cs:Array Value} (h:w.heap[g]? = some (.cells cs t (0,0))) (hp:g ≠ g') (a b c d:Value):((((w.setCell ⟨g',0,none⟩ a).setCell ⟨g',1,none⟩ b).setCell ⟨g',2,none⟩ c).setCell ⟨g',3,none⟩ d).heap[g]? = some (.cells cs t (0,0)) :=
 blk_far (blk_far (blk_far (blk_far h hp a) hp b) hp c) hp d
theorem laws_FnAddrGreat.row4 {α:Type} {d:Kd α} {e base t g:Nat} {ok:Nat → Prop} {v:Value} {xs:List α} {w:World} {cells:Array Value} (h:d.R e w base ok v xs) (hb:w.heap[g]? = some (.cells cells t (0,0))) (ht:∀ q,q ∈ e :: d.E → q ≠ t) (a b c u:Value) :
  d.R e ((((w.setCell ⟨g,0,none⟩ a).setCell ⟨g,1,none⟩ b).setCell ⟨g,2,none⟩ c).setCell ⟨g,3,none⟩ u) base ok v xs :=
 Kd.R_mono (Kd.R_far (p:=⟨g,3,none⟩) (Kd.R_far (p:=⟨g,2,none⟩) (Kd.R_far (p:=⟨g,1,none⟩) (Kd.R_far (p:=⟨g,0,none⟩) (Kd.R_types h hb ht) (fun _ hk=>hk.2) a) (fun _ hk=>hk.2) b) (fun _ hk=>hk.2) c) (fun _ hk=>hk.2) u) (fun _ h_=>h_.1)
theorem laws_FnAddrGreat.below4 {w W:World} {g:Nat} (h:Below w.heap.size w W) (hg:w.heap.size ≤ g) (a b c d:Value):Below w.heap.size w ((((W.setCell ⟨g,0,none⟩ a).setCell ⟨g,1,none⟩ b).setCell ⟨g,2,none⟩ c).setCell ⟨g,3,none⟩ d) :=
 below_set (below_set (below_set (below_set h hg) hg) hg) hg
/-- An address in a variable of the call's own. -/
structure laws_FnAddrGreat.A (w W:World) (b:Nat) (h:ByteArray) (v:Value) (l:List ByteArray) (s:Bool) (q:ByteArray):Prop where
 box:W.heap[b]? = some (.cells #[.string h,v, .bool s, .string q] 24 (0,0))
 row:Kd.R Kd.string 9 W w.heap.size (fun _=>True) v l
theorem laws_FnAddrGreat.A.below {w W W':World} {b:Nat} {h:ByteArray} {v:Value} {l:List ByteArray} {s:Bool} {q:ByteArray} (H:laws_FnAddrGreat.A w W b h v l s q) (hb:Below W.heap.size W W'):laws_FnAddrGreat.A w W' b h v l s q :=
 ⟨blk_below H.box hb,Kd.R_below H.row hb⟩
theorem laws_FnAddrGreat.A.made {w W:World} {b:Nat} {h:ByteArray} {v:Value} {l:List ByteArray} {s:Bool} {q:ByteArray} {x y z u:Value} (hb:W.heap[b]? = some (.cells #[x,y,z,u] 24 (0,0))) (hr:Kd.R Kd.string 9 W w.heap.size (fun _=>True) v l) :
  laws_FnAddrGreat.A w ((((W.setCell ⟨b,0,none⟩ (.string h)).setCell ⟨b,1,none⟩ v).setCell ⟨b,2,none⟩ (.bool s)).setCell ⟨b,3,none⟩ (.string q)) b h v l s q :=
 ⟨laws_FnAddrGreat.put4 hb _ _ _ _,laws_FnAddrGreat.row4 hr hb (by decide) _ _ _ _⟩
theorem laws_FnAddrGreat.A.far {w W:World} {b b':Nat} {h:ByteArray} {v:Value} {l:List ByteArray} {s:Bool} {q:ByteArray} {cs:Array Value} (H:laws_FnAddrGreat.A w W b h v l s q) (hb:W.heap[b']? = some (.cells cs 24 (0,0))) (hn:b ≠ b') (x y z u:Value) :
  laws_FnAddrGreat.A w ((((W.setCell ⟨b',0,none⟩ x).setCell ⟨b',1,none⟩ y).setCell ⟨b',2,none⟩ z).setCell ⟨b',3,none⟩ u) b h v l s q :=
 ⟨laws_FnAddrGreat.far4 H.box hn _ _ _ _,laws_FnAddrGreat.row4 H.row hb (by decide) _ _ _ _⟩
theorem laws_FnAddrGreat.gr_at {xs:List Int} {i:Nat} {F:List Int} (hi:i < xs.length) (h:xs.take i ++ laws_FnAddrGreat.gr (xs.drop i) = F):xs.take i ++ (if xs.getD i 0 = 47 ∨ xs.getD i 0 = 63 ∨ xs.getD i 0 = 35 then xs.getD i 0 :: xs.drop (i + 1) else (if 97 ≤ xs.getD i 0 ∧ xs.getD i 0 ≤ 122 then xs.getD i 0 - 32 else xs.getD i 0) :: laws_FnAddrGreat.gr (xs.drop (i + 1))) = F:=by
 rw [List.drop_eq_getElem_cons hi] at h
 rw [show xs.getD i 0 = xs[i] by rw [List.getD_eq_getElem?_getD,List.getElem?_eq_getElem hi];rfl]
 exact h
/-- A stop: as it stands. -/
theorem laws_FnAddrGreat.gr_stop {xs:List Int} {i:Nat} {F:List Int} (hi:i < xs.length) (h:xs.take i ++ laws_FnAddrGreat.gr (xs.drop i) = F) (hs:xs.getD i 0 = 47 ∨ xs.getD i 0 = 63 ∨ xs.getD i 0 = 35):xs = F:=by
 have:=laws_FnAddrGreat.gr_at hi h
 rw [if_pos hs,show xs.getD i 0 = xs[i] by rw [List.getD_eq_getElem?_getD,List.getElem?_eq_getElem hi];rfl,← List.drop_eq_getElem_cons hi,List.take_append_drop] at this
 exact this
theorem laws_FnAddrGreat.gr_end {xs:List Int} {i:Nat} {F:List Int} (hi:¬ i < xs.length) (h:xs.take i ++ laws_FnAddrGreat.gr (xs.drop i) = F):xs = F:=by
 rw [List.drop_of_length_le (by omega),List.take_of_length_le (by omega)] at h
 rw [← h];exact (List.append_nil xs).symm
/-- A letter goes on. -/
theorem laws_FnAddrGreat.gr_next {xs:List Int} {i:Nat} {F:List Int} (hi:i < xs.length) (h:xs.take i ++ laws_FnAddrGreat.gr (xs.drop i) = F) (hs:¬ (xs.getD i 0 = 47 ∨ xs.getD i 0 = 63 ∨ xs.getD i 0 = 35)) (y:Int) (hy:y = if 97 ≤ xs.getD i 0 ∧ xs.getD i 0 ≤ 122 then xs.getD i 0 - 32 else xs.getD i 0) :
  (xs.set i y).take (i + 1) ++ laws_FnAddrGreat.gr ((xs.set i y).drop (i + 1)) = F:=by
 have:=laws_FnAddrGreat.gr_at hi h
 rw [if_neg hs,← hy] at this
 rw [List.drop_set_of_lt (by omega),List.take_succ_eq_append_getElem (by rw [List.length_set];exact hi),List.getElem_set_self,List.take_set_of_le (Nat.le_refl _),List.append_assoc]
 exact this
theorem laws_FnAddrGreat.same {xs:List Int} {i:Nat} (hi:i < xs.length):xs.set i (xs.getD i 0) = xs:=by
 rw [List.getD_eq_getElem?_getD,List.getElem?_eq_getElem hi];exact List.set_getElem_self hi
theorem laws_FnAddrGreat.bytes (s:ByteArray):∀ x ∈ bytesOf s,0 ≤ x ∧ x ≤ 255:=by
 intro x hx
 unfold bytesOf at hx
 obtain ⟨b,_,rfl⟩:=List.mem_map.mp hx
 have:=b.toNat_lt
 omega
theorem laws_FnAddrGreat.bytes_set {xs:List Int} {i:Nat} {y:Int} (h:∀ x ∈ xs,0 ≤ x ∧ x ≤ 255) (hy:0 ≤ y ∧ y ≤ 255):∀ x ∈ xs.set i y,0 ≤ x ∧ x ≤ 255:=by
 intro x hx
 rcases List.mem_or_eq_of_mem_set hx with h'|h'
 ·exact h x h'
 ·rw [h'];exact hy
theorem laws_FnAddrGreat.at_bd {xs:List Int} (h:∀ x ∈ xs,0 ≤ x ∧ x ≤ 255) {i:Nat} (hi:i < xs.length):0 ≤ xs.getD i 0 ∧ xs.getD i 0 ≤ 255:=by
 rw [List.getD_eq_getElem?_getD,List.getElem?_eq_getElem hi];exact h _ (List.getElem_mem hi)
theorem laws_FnAddrGreat.calls (k:Nat) (A0:Option Addr) (c0:Nat) (l0:List Int) (r:Bool) (w:World) (hr0:Kd.C (Kd.int .u8) w A0 l0.length l0) (hc0:l0.length ≤ c0) (h:laws_FnAddrGreat.f k l0 = some r) :
  Calls Tryd.prog 6 #[.slice A0 l0.length c0] w fun e w'=>e = .returned (.bool r) ∧ Below w.heap.size w w':=by
 have HB:=Aside0.mk (Below.refl w.heap.size w)
 unfold laws_FnAddrGreat.f at h
 by_cases c1:(l0.length:Int) > 1048576
 ·rw [if_pos c1] at h
  obtain rfl:=Option.some.inj h
  clear h
  go_enter Tryd.func6,Tryd.ntmps6
  go_wp2
  go_ret
  exact ⟨rfl,HB.out⟩
 rw [if_neg c1] at h
 obtain ⟨t,h1,h⟩:=Option.bind_eq_some_iff.mp h
 by_cases c2:t.size ≤ 1000000
 rotate_left
 ·rw [if_neg c2] at h;cases h
 rw [if_pos c2] at h
 obtain ⟨⟨ph,pl,pb,pq,po⟩,h2,h⟩:=Option.bind_eq_some_iff.mp h
 obtain ⟨⟨qh,ql,qb,qq,qo⟩,h3,h⟩:=Option.bind_eq_some_iff.mp h
 by_cases c3:qo = po
 rotate_left
 ·rw [if_neg c3] at h;cases h
 rw [if_pos c3] at h
 subst c3
 obtain ⟨e4,h4,h⟩:=Option.bind_eq_some_iff.mp h
 rcases e4 with _|_
 ·rw [if_neg Bool.false_ne_true] at h;cases h
 rw [if_pos rfl] at h
 have HC:=Aside0.mk hr0
 have H1:=Aside0.mk h1
 have H2:=Aside0.mk h2
 have H3:=Aside0.mk h3
 have H4:=Aside0.mk h4
 have HR:=Aside0.mk h
 clear hr0 h1 h2 h3 h4 h
 go_enter Tryd.func6,Tryd.ntmps6
 go_wp2_with fail
 refine (spec_DrawAddrRead.calls k _ _ l0 t _ HC.out hc0 H1.out).mono ?_
 rintro e w1 ⟨rfl,hb⟩
 have HB1:=Aside0.mk hb
 clear hb HB HC
 go_wp2_with fail
 refine (spec_AddrRead.calls k t ph pl pb pq qo _ H2.out).mono ?_
 rintro e w2 ⟨vp,rfl,ho,hb⟩
 have HB2:=Aside0.mk (below_step HB1.out hb)
 have HP:=Aside0.mk (Kd.R_lower ho (below_size HB1.out))
 clear ho hb HB1
 obtain ⟨Ap,cp,rfl⟩:=Kd.R_slice HP.out
 go_wp2_with ((with_reducible refine gate_dst (N:=4) rfl ?_);refine box_event ?hg (N:=4) ?hd (cs:=#[.string (⟨#[]⟩:ByteArray), .slice none 0 0, .bool false, .string (⟨#[]⟩:ByteArray)]) (t:=24) ?hr ?_;(case hd=>rfl);(case hg=>rfl);(case hr=>go_simp <;> rfl);intro b4 hg w3 hbox hb;have HB3:=Aside0.mk (below_step HB2.out hb);have P0:=Aside0.mk (Kd.R_below HP.out hb);have K4:=Aside0.mk hbox;have W4:=Aside0.mk (show w.heap.size ≤ b4 by rw [hg];exact below_size HB2.out);clear HB2 HP hb hbox hg;have hcz0:w3.cell? ⟨b4,0,none⟩ = some (.string (⟨#[]⟩:ByteArray)):=(blk_cell K4.out 0).trans rfl;have hcz1:w3.cell? ⟨b4,1,none⟩ = some (.slice none 0 0):=(blk_cell K4.out 1).trans rfl;have hcz2:w3.cell? ⟨b4,2,none⟩ = some (.bool false):=(blk_cell K4.out 2).trans rfl;have hcz3:w3.cell? ⟨b4,3,none⟩ = some (.string (⟨#[]⟩:ByteArray)):=(blk_cell K4.out 3).trans rfl;have hfz0:=blk_frozen K4.out 0;have hfz1:=blk_frozen K4.out 1;have hfz2:=blk_frozen K4.out 2;have hfz3:=blk_frozen K4.out 3)
 have A4':=Aside0.mk (laws_FnAddrGreat.A.made (h:=ph) (s:=pb) (q:=pq) K4.out P0.out)
 have HB4:=Aside0.mk (laws_FnAddrGreat.below4 HB3.out W4.out (.string ph) (.slice Ap pl.length cp) (.bool pb) (.string pq))
 clear K4 P0 HB3 hcz0 hcz1 hcz2 hcz3 hfz0 hfz1 hfz2 hfz3
 generalize ((((w3.setCell ⟨b4,0,none⟩ (.string ph)).setCell ⟨b4,1,none⟩ (.slice Ap pl.length cp)).setCell ⟨b4,2,none⟩ (.bool pb)).setCell ⟨b4,3,none⟩ (.string pq)) = w4 at A4' HB4 ⊢
 refine (impl_AddrRead.calls k t qh ql qb qq qo _ H3.out).mono ?_
 rintro e w5 ⟨vq,rfl,ho,hb⟩
 have HB5:=Aside0.mk (below_step HB4.out hb)
 have HQ:=Aside0.mk (Kd.R_lower ho (below_size HB4.out))
 have A45:=Aside0.mk (A4'.out.below hb)
 clear ho hb HB4 A4'
 obtain ⟨Aq,cq,rfl⟩:=Kd.R_slice HQ.out
 rcases qo with _|_
 ·have hr:=HR.out
  rw [if_neg Bool.false_ne_true] at hr
  obtain rfl:=Option.some.inj hr
  clear hr HR
  go_wp2_with ((with_reducible refine gate_dst (N:=6) rfl ?_);refine box_event ?hg (N:=6) ?hd (cs:=#[.string (⟨#[]⟩:ByteArray), .slice none 0 0, .bool false, .string (⟨#[]⟩:ByteArray)]) (t:=24) ?hr ?_;(case hd=>rfl);(case hg=>rfl);(case hr=>go_simp <;> rfl);intro b6 hg w6 hbox hb;have HB6:=Aside0.mk (below_step HB5.out hb);have Q0:=Aside0.mk (Kd.R_below HQ.out hb);have A46:=Aside0.mk (A45.out.below hb);have K6:=Aside0.mk hbox;have W6:=Aside0.mk (show w.heap.size ≤ b6 by rw [hg];exact below_size HB5.out);have N46:=Aside0.mk (show b4 ≠ b6 by rw [hg];exact Nat.ne_of_lt (blk_lt A45.out.box));clear HB5 HQ A45 hb hbox hg;have hcz0:w6.cell? ⟨b6,0,none⟩ = some (.string (⟨#[]⟩:ByteArray)):=(blk_cell K6.out 0).trans rfl;have hcz1:w6.cell? ⟨b6,1,none⟩ = some (.slice none 0 0):=(blk_cell K6.out 1).trans rfl;have hcz2:w6.cell? ⟨b6,2,none⟩ = some (.bool false):=(blk_cell K6.out 2).trans rfl;have hcz3:w6.cell? ⟨b6,3,none⟩ = some (.string (⟨#[]⟩:ByteArray)):=(blk_cell K6.out 3).trans rfl;have hfz0:=blk_frozen K6.out 0;have hfz1:=blk_frozen K6.out 1;have hfz2:=blk_frozen K6.out 2;have hfz3:=blk_frozen K6.out 3;have hcy0:w6.cell? ⟨b4,0,none⟩ = some (.string ph):=(blk_cell A46.out.box 0).trans rfl;have hcy1:w6.cell? ⟨b4,1,none⟩ = some (.slice Ap pl.length cp):=(blk_cell A46.out.box 1).trans rfl;have hcy2:w6.cell? ⟨b4,2,none⟩ = some (.bool pb):=(blk_cell A46.out.box 2).trans rfl;have hcy3:w6.cell? ⟨b4,3,none⟩ = some (.string pq):=(blk_cell A46.out.box 3).trans rfl;have hn46:=N46.out;have hn64:=N46.out.symm)
  have A6:=Aside0.mk (laws_FnAddrGreat.A.made (h:=qh) (s:=qb) (q:=qq) K6.out Q0.out)
  have A47:=Aside0.mk (A46.out.far K6.out N46.out (.string qh) (.slice Aq ql.length cq) (.bool qb) (.string qq))
  have HB7:=Aside0.mk (laws_FnAddrGreat.below4 HB6.out W6.out (.string qh) (.slice Aq ql.length cq) (.bool qb) (.string qq))
  clear K6 Q0 HB6 A46 hcz0 hcz1 hcz2 hcz3 hfz0 hfz1 hfz2 hfz3 hcy0 hcy1 hcy2 hcy3 hn46 hn64
  generalize ((((w6.setCell ⟨b6,0,none⟩ (.string qh)).setCell ⟨b6,1,none⟩ (.slice Aq ql.length cq)).setCell ⟨b6,2,none⟩ (.bool qb)).setCell ⟨b6,3,none⟩ (.string qq)) = w7 at A6 A47 HB7 ⊢
  refine (laws_lpAddr.calls k qh _ _ ql qb qq ph _ _ pl pb pq true w7 (Kd.R_reads' A6.out.row).2.2 (Kd.R_reads' A6.out.row).2.1 (Kd.R_reads' A47.out.row).2.2 (Kd.R_reads' A47.out.row).2.1 H4.out).mono ?_
  rintro e w8 ⟨rfl,hb⟩
  have HB8:=Aside0.mk (below_step HB7.out hb)
  have A68:=Aside0.mk (A6.out.below hb)
  have A48:=Aside0.mk (A47.out.below hb)
  clear hb HB7 A6 A47
  have hcy0:w8.cell? ⟨b4,0,none⟩ = some (.string ph):=(blk_cell A48.out.box 0).trans rfl
  have hcy1:w8.cell? ⟨b4,1,none⟩ = some (.slice Ap pl.length cp):=(blk_cell A48.out.box 1).trans rfl
  have hcy2:w8.cell? ⟨b4,2,none⟩ = some (.bool pb):=(blk_cell A48.out.box 2).trans rfl
  have hcy3:w8.cell? ⟨b4,3,none⟩ = some (.string pq):=(blk_cell A48.out.box 3).trans rfl
  have hcx0:w8.cell? ⟨b6,0,none⟩ = some (.string qh):=(blk_cell A68.out.box 0).trans rfl
  have hcx1:w8.cell? ⟨b6,1,none⟩ = some (.slice Aq ql.length cq):=(blk_cell A68.out.box 1).trans rfl
  have hcx2:w8.cell? ⟨b6,2,none⟩ = some (.bool qb):=(blk_cell A68.out.box 2).trans rfl
  have hcx3:w8.cell? ⟨b6,3,none⟩ = some (.string qq):=(blk_cell A68.out.box 3).trans rfl
  go_wp2_with fail
  refine (laws_lpAddr.calls k qh _ _ ql qb qq ph _ _ pl pb pq true w8 (Kd.R_reads' A68.out.row).2.2 (Kd.R_reads' A68.out.row).2.1 (Kd.R_reads' A48.out.row).2.2 (Kd.R_reads' A48.out.row).2.1 H4.out).mono ?_
  rintro e w9 ⟨rfl,hb⟩
  have HB9:=Aside0.mk (below_step HB8.out hb)
  clear hb HB8 hcy0 hcy1 hcy2 hcy3 hcx0 hcx1 hcx2 hcx3
  go_wp2
  go_ret
  exact ⟨rfl,HB9.out⟩
 ·have hr:=HR.out
  rw [if_pos rfl] at hr
  obtain ⟨⟨xh,xl,xb,xq,xo⟩,h5,hr⟩:=Option.bind_eq_some_iff.mp hr
  rcases xo with _|_
  ·rw [if_neg Bool.false_ne_true] at hr;cases hr
  rw [if_pos rfl] at hr
  have H5:=Aside0.mk h5
  have H6:=Aside0.mk hr
  clear h5 hr HR
  go_wp2_with ((with_reducible refine gate_dst (N:=6) rfl ?_);refine box_event ?hg (N:=6) ?hd (cs:=#[.string (⟨#[]⟩:ByteArray), .slice none 0 0, .bool false, .string (⟨#[]⟩:ByteArray)]) (t:=24) ?hr ?_;(case hd=>rfl);(case hg=>rfl);(case hr=>go_simp <;> rfl);intro b6 hg w6 hbox hb;have HB6:=Aside0.mk (below_step HB5.out hb);have Q0:=Aside0.mk (Kd.R_below HQ.out hb);have A46:=Aside0.mk (A45.out.below hb);have K6:=Aside0.mk hbox;have W6:=Aside0.mk (show w.heap.size ≤ b6 by rw [hg];exact below_size HB5.out);have N46:=Aside0.mk (show b4 ≠ b6 by rw [hg];exact Nat.ne_of_lt (blk_lt A45.out.box));clear HB5 HQ A45 hb hbox hg;have hcz0:w6.cell? ⟨b6,0,none⟩ = some (.string (⟨#[]⟩:ByteArray)):=(blk_cell K6.out 0).trans rfl;have hcz1:w6.cell? ⟨b6,1,none⟩ = some (.slice none 0 0):=(blk_cell K6.out 1).trans rfl;have hcz2:w6.cell? ⟨b6,2,none⟩ = some (.bool false):=(blk_cell K6.out 2).trans rfl;have hcz3:w6.cell? ⟨b6,3,none⟩ = some (.string (⟨#[]⟩:ByteArray)):=(blk_cell K6.out 3).trans rfl;have hfz0:=blk_frozen K6.out 0;have hfz1:=blk_frozen K6.out 1;have hfz2:=blk_frozen K6.out 2;have hfz3:=blk_frozen K6.out 3;have hcy0:w6.cell? ⟨b4,0,none⟩ = some (.string ph):=(blk_cell A46.out.box 0).trans rfl;have hcy1:w6.cell? ⟨b4,1,none⟩ = some (.slice Ap pl.length cp):=(blk_cell A46.out.box 1).trans rfl;have hcy2:w6.cell? ⟨b4,2,none⟩ = some (.bool pb):=(blk_cell A46.out.box 2).trans rfl;have hcy3:w6.cell? ⟨b4,3,none⟩ = some (.string pq):=(blk_cell A46.out.box 3).trans rfl;have hn46:=N46.out;have hn64:=N46.out.symm)
  have A6:=Aside0.mk (laws_FnAddrGreat.A.made (h:=qh) (s:=qb) (q:=qq) K6.out Q0.out)
  have A47:=Aside0.mk (A46.out.far K6.out N46.out (.string qh) (.slice Aq ql.length cq) (.bool qb) (.string qq))
  have HB7:=Aside0.mk (laws_FnAddrGreat.below4 HB6.out W6.out (.string qh) (.slice Aq ql.length cq) (.bool qb) (.string qq))
  clear K6 Q0 HB6 A46 hcz0 hcz1 hcz2 hcz3 hfz0 hfz1 hfz2 hfz3 hcy0 hcy1 hcy2 hcy3 hn46 hn64
  generalize ((((w6.setCell ⟨b6,0,none⟩ (.string qh)).setCell ⟨b6,1,none⟩ (.slice Aq ql.length cq)).setCell ⟨b6,2,none⟩ (.bool qb)).setCell ⟨b6,3,none⟩ (.string qq)) = w7 at A6 A47 HB7 ⊢
  refine (laws_lpAddr.calls k qh _ _ ql qb qq ph _ _ pl pb pq true w7 (Kd.R_reads' A6.out.row).2.2 (Kd.R_reads' A6.out.row).2.1 (Kd.R_reads' A47.out.row).2.2 (Kd.R_reads' A47.out.row).2.1 H4.out).mono ?_
  rintro e w8 ⟨rfl,hb⟩
  have HB8:=Aside0.mk (below_step HB7.out hb)
  have A68:=Aside0.mk (A6.out.below hb)
  have A48:=Aside0.mk (A47.out.below hb)
  clear hb HB7 A6 A47
  clear A48
  obtain ⟨W0,cap,hcv,HW⟩:∃ W0 cap,(convert 9 30 (.string t)).run Tryd.prog w8 = .ok (.slice (some ⟨w8.heap.size,0,none⟩) t.size cap) W0 ∧ Aside0 (spec_l1Small.Row w8 W0 5 (bytesOf t)):=⟨_,_,Lib.run_convert_string_bytes w8 9 30 5 t Tryd.underlying9 Tryd.underlying30 Tryd.underlying5,⟨spec_l1Small.Row.new w8 5 t⟩⟩
  obtain ⟨F,hF⟩:∃ F,(bytesOf t).take 2 ++ laws_FnAddrGreat.gr ((bytesOf t).drop 2) = F:=⟨_,rfl⟩
  have HF:=Aside0.mk (show strOfNums F = laws_FnAddrGreat.great t by unfold laws_FnAddrGreat.great;rw [hF])
  have HG:=Aside0.mk hF
  have HL:=Aside0.mk (bytesOf_length t)
  have HY:=Aside0.mk (laws_FnAddrGreat.bytes t)
  clear hF
  go_wp2
  go_loopg [9] t.size (fun gg v9 wr=>∃ (i:Nat) (xs:List Int),v9 = .int .i64 i ∧ t.size - i ≤ gg ∧ i ≤ 1000002 ∧ Aside0 (xs.length = t.size) ∧ Aside0 (xs.take i ++ laws_FnAddrGreat.gr (xs.drop i) = F) ∧ Aside0 (∀ x ∈ xs,0 ≤ x ∧ x ≤ 255) ∧ Aside0 (spec_l1Small.Row w8 wr 5 xs))
  case atStart=>exact ⟨2,bytesOf t,rfl,by omega,by omega,HL,HG,HY,HW⟩
  case round =>
   clear hcv HW HG HL HY
   obtain ⟨i,xs,rfl,hgg,hi2,HL,HG,HY,HK⟩:=hrel
   by_cases hlt:i < t.size
   rotate_left
   ·have hltz:¬ (i:Int) < (t.size:Int):=by omega
    have hxF:xs = F:=laws_FnAddrGreat.gr_end (by rw [HL.out];exact hlt) HG.out
    have HS:=Aside0.mk (show strOfNums xs = laws_FnAddrGreat.great t by rw [hxF];exact HF.out)
    have hcb:(convert 30 9 (.slice (some ⟨w8.heap.size,0,none⟩) t.size cap)).run Tryd.prog wr = .ok (.string (laws_FnAddrGreat.great t)) wr:=by
     have h_:=HK.out.reads (by rw [HL.out];exact c2)
     rw [HL.out] at h_
     rw [← HS.out]
     exact string_of_reads Tryd.underlying30 Tryd.underlying5 Tryd.underlying9 h_
    have A69:=Aside0.mk (A68.out.below HK.out.1)
    have HB9:=Aside0.mk (below_step HB8.out HK.out.1)
    clear hxF HK HG HY HL A68 HB8
    go_wp2_with fail
    refine (impl_AddrRead.calls k (laws_FnAddrGreat.great t) xh xl xb xq true _ H5.out).mono ?_
    rintro e w10 ⟨vx,rfl,ho,hb⟩
    have HB10:=Aside0.mk (below_step HB9.out hb)
    have HX:=Aside0.mk (Kd.R_lower ho (below_size HB9.out))
    have A610:=Aside0.mk (A69.out.below hb)
    clear ho hb HB9 A69 hcb
    obtain ⟨Ax,cx,rfl⟩:=Kd.R_slice HX.out
    go_wp2_with ((with_reducible refine gate_dst (N:=10) rfl ?_);refine box_event ?hg (N:=10) ?hd (cs:=#[.string (⟨#[]⟩:ByteArray), .slice none 0 0, .bool false, .string (⟨#[]⟩:ByteArray)]) (t:=24) ?hr ?_;(case hd=>rfl);(case hg=>rfl);(case hr=>go_simp <;> rfl);intro b10 hg w11 hbox hb;have HB11:=Aside0.mk (below_step HB10.out hb);have X0:=Aside0.mk (Kd.R_below HX.out hb);have A611:=Aside0.mk (A610.out.below hb);have K10:=Aside0.mk hbox;have W10:=Aside0.mk (show w.heap.size ≤ b10 by rw [hg];exact below_size HB10.out);have N610:=Aside0.mk (show b6 ≠ b10 by rw [hg];exact Nat.ne_of_lt (blk_lt A610.out.box));clear HB10 HX A610 hb hbox hg;have hcz0:w11.cell? ⟨b10,0,none⟩ = some (.string (⟨#[]⟩:ByteArray)):=(blk_cell K10.out 0).trans rfl;have hcz1:w11.cell? ⟨b10,1,none⟩ = some (.slice none 0 0):=(blk_cell K10.out 1).trans rfl;have hcz2:w11.cell? ⟨b10,2,none⟩ = some (.bool false):=(blk_cell K10.out 2).trans rfl;have hcz3:w11.cell? ⟨b10,3,none⟩ = some (.string (⟨#[]⟩:ByteArray)):=(blk_cell K10.out 3).trans rfl;have hfz0:=blk_frozen K10.out 0;have hfz1:=blk_frozen K10.out 1;have hfz2:=blk_frozen K10.out 2;have hfz3:=blk_frozen K10.out 3;have hcy0:w11.cell? ⟨b6,0,none⟩ = some (.string qh):=(blk_cell A611.out.box 0).trans rfl;have hcy1:w11.cell? ⟨b6,1,none⟩ = some (.slice Aq ql.length cq):=(blk_cell A611.out.box 1).trans rfl;have hcy2:w11.cell? ⟨b6,2,none⟩ = some (.bool qb):=(blk_cell A611.out.box 2).trans rfl;have hcy3:w11.cell? ⟨b6,3,none⟩ = some (.string qq):=(blk_cell A611.out.box 3).trans rfl;have hn610:=N610.out;have hn106:=N610.out.symm)
    have A10:=Aside0.mk (laws_FnAddrGreat.A.made (h:=xh) (s:=xb) (q:=xq) K10.out X0.out)
    have A612:=Aside0.mk (A611.out.far K10.out N610.out (.string xh) (.slice Ax xl.length cx) (.bool xb) (.string xq))
    have HB12:=Aside0.mk (laws_FnAddrGreat.below4 HB11.out W10.out (.string xh) (.slice Ax xl.length cx) (.bool xb) (.string xq))
    clear K10 X0 HB11 A611 hcz0 hcz1 hcz2 hcz3 hfz0 hfz1 hfz2 hfz3 hcy0 hcy1 hcy2 hcy3 hn610 hn106
    generalize ((((w11.setCell ⟨b10,0,none⟩ (.string xh)).setCell ⟨b10,1,none⟩ (.slice Ax xl.length cx)).setCell ⟨b10,2,none⟩ (.bool xb)).setCell ⟨b10,3,none⟩ (.string xq)) = w12 at A10 A612 HB12 ⊢
    refine (laws_lpAddr.calls k xh _ _ xl xb xq qh _ _ ql qb qq r w12 (Kd.R_reads' A10.out.row).2.2 (Kd.R_reads' A10.out.row).2.1 (Kd.R_reads' A612.out.row).2.2 (Kd.R_reads' A612.out.row).2.1 H6.out).mono ?_
    rintro e w13 ⟨rfl,hb⟩
    have HB13:=Aside0.mk (below_step HB12.out hb)
    clear hb HB12 A10 A612
    go_wp2
    go_ret
    exact ⟨rfl,HB13.out⟩
   have hltz:(i:Int) < (t.size:Int):=by omega
   have HI:=Aside0.mk (show i < xs.length by rw [HL.out];exact hlt)
   have hc:=HK.out.cell HI.out
   have hf:=HK.out.free HI.out
   have hbd:=laws_FnAddrGreat.at_bd HY.out HI.out
   generalize hx:xs.getD i 0 = x at hc hbd
   have HX_:=Aside0.mk hx
   clear hx
   rcases (show x = 47 ∨ x = 63 ∨ x = 35 ∨ (x ≠ 47 ∧ x ≠ 63 ∧ x ≠ 35) by omega) with rfl|rfl|rfl|⟨n1,n2,n3⟩
   ·have hstop:xs.getD i 0 = 47 ∨ xs.getD i 0 = 63 ∨ xs.getD i 0 = 35:=by rw [HX_.out];omega
    have hxF:xs = F:=laws_FnAddrGreat.gr_stop HI.out HG.out hstop
    have HS:=Aside0.mk (show strOfNums xs = laws_FnAddrGreat.great t by rw [hxF];exact HF.out)
    have hcb:(convert 30 9 (.slice (some ⟨w8.heap.size,0,none⟩) t.size cap)).run Tryd.prog wr = .ok (.string (laws_FnAddrGreat.great t)) wr:=by
     have h_:=HK.out.reads (by rw [HL.out];exact c2)
     rw [HL.out] at h_
     rw [← HS.out]
     exact string_of_reads Tryd.underlying30 Tryd.underlying5 Tryd.underlying9 h_
    have A69:=Aside0.mk (A68.out.below HK.out.1)
    have HB9:=Aside0.mk (below_step HB8.out HK.out.1)
    clear hxF HK HG HY HL A68 HB8
    go_wp2_with fail
    refine (impl_AddrRead.calls k (laws_FnAddrGreat.great t) xh xl xb xq true _ H5.out).mono ?_
    rintro e w10 ⟨vx,rfl,ho,hb⟩
    have HB10:=Aside0.mk (below_step HB9.out hb)
    have HX:=Aside0.mk (Kd.R_lower ho (below_size HB9.out))
    have A610:=Aside0.mk (A69.out.below hb)
    clear ho hb HB9 A69 hcb
    obtain ⟨Ax,cx,rfl⟩:=Kd.R_slice HX.out
    go_wp2_with ((with_reducible refine gate_dst (N:=10) rfl ?_);refine box_event ?hg (N:=10) ?hd (cs:=#[.string (⟨#[]⟩:ByteArray), .slice none 0 0, .bool false, .string (⟨#[]⟩:ByteArray)]) (t:=24) ?hr ?_;(case hd=>rfl);(case hg=>rfl);(case hr=>go_simp <;> rfl);intro b10 hg w11 hbox hb;have HB11:=Aside0.mk (below_step HB10.out hb);have X0:=Aside0.mk (Kd.R_below HX.out hb);have A611:=Aside0.mk (A610.out.below hb);have K10:=Aside0.mk hbox;have W10:=Aside0.mk (show w.heap.size ≤ b10 by rw [hg];exact below_size HB10.out);have N610:=Aside0.mk (show b6 ≠ b10 by rw [hg];exact Nat.ne_of_lt (blk_lt A610.out.box));clear HB10 HX A610 hb hbox hg;have hcz0:w11.cell? ⟨b10,0,none⟩ = some (.string (⟨#[]⟩:ByteArray)):=(blk_cell K10.out 0).trans rfl;have hcz1:w11.cell? ⟨b10,1,none⟩ = some (.slice none 0 0):=(blk_cell K10.out 1).trans rfl;have hcz2:w11.cell? ⟨b10,2,none⟩ = some (.bool false):=(blk_cell K10.out 2).trans rfl;have hcz3:w11.cell? ⟨b10,3,none⟩ = some (.string (⟨#[]⟩:ByteArray)):=(blk_cell K10.out 3).trans rfl;have hfz0:=blk_frozen K10.out 0;have hfz1:=blk_frozen K10.out 1;have hfz2:=blk_frozen K10.out 2;have hfz3:=blk_frozen K10.out 3;have hcy0:w11.cell? ⟨b6,0,none⟩ = some (.string qh):=(blk_cell A611.out.box 0).trans rfl;have hcy1:w11.cell? ⟨b6,1,none⟩ = some (.slice Aq ql.length cq):=(blk_cell A611.out.box 1).trans rfl;have hcy2:w11.cell? ⟨b6,2,none⟩ = some (.bool qb):=(blk_cell A611.out.box 2).trans rfl;have hcy3:w11.cell? ⟨b6,3,none⟩ = some (.string qq):=(blk_cell A611.out.box 3).trans rfl;have hn610:=N610.out;have hn106:=N610.out.symm)
    have A10:=Aside0.mk (laws_FnAddrGreat.A.made (h:=xh) (s:=xb) (q:=xq) K10.out X0.out)
    have A612:=Aside0.mk (A611.out.far K10.out N610.out (.string xh) (.slice Ax xl.length cx) (.bool xb) (.string xq))
    have HB12:=Aside0.mk (laws_FnAddrGreat.below4 HB11.out W10.out (.string xh) (.slice Ax xl.length cx) (.bool xb) (.string xq))
    clear K10 X0 HB11 A611 hcz0 hcz1 hcz2 hcz3 hfz0 hfz1 hfz2 hfz3 hcy0 hcy1 hcy2 hcy3 hn610 hn106
    generalize ((((w11.setCell ⟨b10,0,none⟩ (.string xh)).setCell ⟨b10,1,none⟩ (.slice Ax xl.length cx)).setCell ⟨b10,2,none⟩ (.bool xb)).setCell ⟨b10,3,none⟩ (.string xq)) = w12 at A10 A612 HB12 ⊢
    refine (laws_lpAddr.calls k xh _ _ xl xb xq qh _ _ ql qb qq r w12 (Kd.R_reads' A10.out.row).2.2 (Kd.R_reads' A10.out.row).2.1 (Kd.R_reads' A612.out.row).2.2 (Kd.R_reads' A612.out.row).2.1 H6.out).mono ?_
    rintro e w13 ⟨rfl,hb⟩
    have HB13:=Aside0.mk (below_step HB12.out hb)
    clear hb HB12 A10 A612
    go_wp2
    go_ret
    exact ⟨rfl,HB13.out⟩
   ·have hstop:xs.getD i 0 = 47 ∨ xs.getD i 0 = 63 ∨ xs.getD i 0 = 35:=by rw [HX_.out];omega
    have hxF:xs = F:=laws_FnAddrGreat.gr_stop HI.out HG.out hstop
    have HS:=Aside0.mk (show strOfNums xs = laws_FnAddrGreat.great t by rw [hxF];exact HF.out)
    have hcb:(convert 30 9 (.slice (some ⟨w8.heap.size,0,none⟩) t.size cap)).run Tryd.prog wr = .ok (.string (laws_FnAddrGreat.great t)) wr:=by
     have h_:=HK.out.reads (by rw [HL.out];exact c2)
     rw [HL.out] at h_
     rw [← HS.out]
     exact string_of_reads Tryd.underlying30 Tryd.underlying5 Tryd.underlying9 h_
    have A69:=Aside0.mk (A68.out.below HK.out.1)
    have HB9:=Aside0.mk (below_step HB8.out HK.out.1)
    clear hxF HK HG HY HL A68 HB8
    go_wp2_with fail
    refine (impl_AddrRead.calls k (laws_FnAddrGreat.great t) xh xl xb xq true _ H5.out).mono ?_
    rintro e w10 ⟨vx,rfl,ho,hb⟩
    have HB10:=Aside0.mk (below_step HB9.out hb)
    have HX:=Aside0.mk (Kd.R_lower ho (below_size HB9.out))
    have A610:=Aside0.mk (A69.out.below hb)
    clear ho hb HB9 A69 hcb
    obtain ⟨Ax,cx,rfl⟩:=Kd.R_slice HX.out
    go_wp2_with ((with_reducible refine gate_dst (N:=10) rfl ?_);refine box_event ?hg (N:=10) ?hd (cs:=#[.string (⟨#[]⟩:ByteArray), .slice none 0 0, .bool false, .string (⟨#[]⟩:ByteArray)]) (t:=24) ?hr ?_;(case hd=>rfl);(case hg=>rfl);(case hr=>go_simp <;> rfl);intro b10 hg w11 hbox hb;have HB11:=Aside0.mk (below_step HB10.out hb);have X0:=Aside0.mk (Kd.R_below HX.out hb);have A611:=Aside0.mk (A610.out.below hb);have K10:=Aside0.mk hbox;have W10:=Aside0.mk (show w.heap.size ≤ b10 by rw [hg];exact below_size HB10.out);have N610:=Aside0.mk (show b6 ≠ b10 by rw [hg];exact Nat.ne_of_lt (blk_lt A610.out.box));clear HB10 HX A610 hb hbox hg;have hcz0:w11.cell? ⟨b10,0,none⟩ = some (.string (⟨#[]⟩:ByteArray)):=(blk_cell K10.out 0).trans rfl;have hcz1:w11.cell? ⟨b10,1,none⟩ = some (.slice none 0 0):=(blk_cell K10.out 1).trans rfl;have hcz2:w11.cell? ⟨b10,2,none⟩ = some (.bool false):=(blk_cell K10.out 2).trans rfl;have hcz3:w11.cell? ⟨b10,3,none⟩ = some (.string (⟨#[]⟩:ByteArray)):=(blk_cell K10.out 3).trans rfl;have hfz0:=blk_frozen K10.out 0;have hfz1:=blk_frozen K10.out 1;have hfz2:=blk_frozen K10.out 2;have hfz3:=blk_frozen K10.out 3;have hcy0:w11.cell? ⟨b6,0,none⟩ = some (.string qh):=(blk_cell A611.out.box 0).trans rfl;have hcy1:w11.cell? ⟨b6,1,none⟩ = some (.slice Aq ql.length cq):=(blk_cell A611.out.box 1).trans rfl;have hcy2:w11.cell? ⟨b6,2,none⟩ = some (.bool qb):=(blk_cell A611.out.box 2).trans rfl;have hcy3:w11.cell? ⟨b6,3,none⟩ = some (.string qq):=(blk_cell A611.out.box 3).trans rfl;have hn610:=N610.out;have hn106:=N610.out.symm)
    have A10:=Aside0.mk (laws_FnAddrGreat.A.made (h:=xh) (s:=xb) (q:=xq) K10.out X0.out)
    have A612:=Aside0.mk (A611.out.far K10.out N610.out (.string xh) (.slice Ax xl.length cx) (.bool xb) (.string xq))
    have HB12:=Aside0.mk (laws_FnAddrGreat.below4 HB11.out W10.out (.string xh) (.slice Ax xl.length cx) (.bool xb) (.string xq))
    clear K10 X0 HB11 A611 hcz0 hcz1 hcz2 hcz3 hfz0 hfz1 hfz2 hfz3 hcy0 hcy1 hcy2 hcy3 hn610 hn106
    generalize ((((w11.setCell ⟨b10,0,none⟩ (.string xh)).setCell ⟨b10,1,none⟩ (.slice Ax xl.length cx)).setCell ⟨b10,2,none⟩ (.bool xb)).setCell ⟨b10,3,none⟩ (.string xq)) = w12 at A10 A612 HB12 ⊢
    refine (laws_lpAddr.calls k xh _ _ xl xb xq qh _ _ ql qb qq r w12 (Kd.R_reads' A10.out.row).2.2 (Kd.R_reads' A10.out.row).2.1 (Kd.R_reads' A612.out.row).2.2 (Kd.R_reads' A612.out.row).2.1 H6.out).mono ?_
    rintro e w13 ⟨rfl,hb⟩
    have HB13:=Aside0.mk (below_step HB12.out hb)
    clear hb HB12 A10 A612
    go_wp2
    go_ret
    exact ⟨rfl,HB13.out⟩
   ·have hstop:xs.getD i 0 = 47 ∨ xs.getD i 0 = 63 ∨ xs.getD i 0 = 35:=by rw [HX_.out];omega
    have hxF:xs = F:=laws_FnAddrGreat.gr_stop HI.out HG.out hstop
    have HS:=Aside0.mk (show strOfNums xs = laws_FnAddrGreat.great t by rw [hxF];exact HF.out)
    have hcb:(convert 30 9 (.slice (some ⟨w8.heap.size,0,none⟩) t.size cap)).run Tryd.prog wr = .ok (.string (laws_FnAddrGreat.great t)) wr:=by
     have h_:=HK.out.reads (by rw [HL.out];exact c2)
     rw [HL.out] at h_
     rw [← HS.out]
     exact string_of_reads Tryd.underlying30 Tryd.underlying5 Tryd.underlying9 h_
    have A69:=Aside0.mk (A68.out.below HK.out.1)
    have HB9:=Aside0.mk (below_step HB8.out HK.out.1)
    clear hxF HK HG HY HL A68 HB8
    go_wp2_with fail
    refine (impl_AddrRead.calls k (laws_FnAddrGreat.great t) xh xl xb xq true _ H5.out).mono ?_
    rintro e w10 ⟨vx,rfl,ho,hb⟩
    have HB10:=Aside0.mk (below_step HB9.out hb)
    have HX:=Aside0.mk (Kd.R_lower ho (below_size HB9.out))
    have A610:=Aside0.mk (A69.out.below hb)
    clear ho hb HB9 A69 hcb
    obtain ⟨Ax,cx,rfl⟩:=Kd.R_slice HX.out
    go_wp2_with ((with_reducible refine gate_dst (N:=10) rfl ?_);refine box_event ?hg (N:=10) ?hd (cs:=#[.string (⟨#[]⟩:ByteArray), .slice none 0 0, .bool false, .string (⟨#[]⟩:ByteArray)]) (t:=24) ?hr ?_;(case hd=>rfl);(case hg=>rfl);(case hr=>go_simp <;> rfl);intro b10 hg w11 hbox hb;have HB11:=Aside0.mk (below_step HB10.out hb);have X0:=Aside0.mk (Kd.R_below HX.out hb);have A611:=Aside0.mk (A610.out.below hb);have K10:=Aside0.mk hbox;have W10:=Aside0.mk (show w.heap.size ≤ b10 by rw [hg];exact below_size HB10.out);have N610:=Aside0.mk (show b6 ≠ b10 by rw [hg];exact Nat.ne_of_lt (blk_lt A610.out.box));clear HB10 HX A610 hb hbox hg;have hcz0:w11.cell? ⟨b10,0,none⟩ = some (.string (⟨#[]⟩:ByteArray)):=(blk_cell K10.out 0).trans rfl;have hcz1:w11.cell? ⟨b10,1,none⟩ = some (.slice none 0 0):=(blk_cell K10.out 1).trans rfl;have hcz2:w11.cell? ⟨b10,2,none⟩ = some (.bool false):=(blk_cell K10.out 2).trans rfl;have hcz3:w11.cell? ⟨b10,3,none⟩ = some (.string (⟨#[]⟩:ByteArray)):=(blk_cell K10.out 3).trans rfl;have hfz0:=blk_frozen K10.out 0;have hfz1:=blk_frozen K10.out 1;have hfz2:=blk_frozen K10.out 2;have hfz3:=blk_frozen K10.out 3;have hcy0:w11.cell? ⟨b6,0,none⟩ = some (.string qh):=(blk_cell A611.out.box 0).trans rfl;have hcy1:w11.cell? ⟨b6,1,none⟩ = some (.slice Aq ql.length cq):=(blk_cell A611.out.box 1).trans rfl;have hcy2:w11.cell? ⟨b6,2,none⟩ = some (.bool qb):=(blk_cell A611.out.box 2).trans rfl;have hcy3:w11.cell? ⟨b6,3,none⟩ = some (.string qq):=(blk_cell A611.out.box 3).trans rfl;have hn610:=N610.out;have hn106:=N610.out.symm)
    have A10:=Aside0.mk (laws_FnAddrGreat.A.made (h:=xh) (s:=xb) (q:=xq) K10.out X0.out)
    have A612:=Aside0.mk (A611.out.far K10.out N610.out (.string xh) (.slice Ax xl.length cx) (.bool xb) (.string xq))
    have HB12:=Aside0.mk (laws_FnAddrGreat.below4 HB11.out W10.out (.string xh) (.slice Ax xl.length cx) (.bool xb) (.string xq))
    clear K10 X0 HB11 A611 hcz0 hcz1 hcz2 hcz3 hfz0 hfz1 hfz2 hfz3 hcy0 hcy1 hcy2 hcy3 hn610 hn106
    generalize ((((w11.setCell ⟨b10,0,none⟩ (.string xh)).setCell ⟨b10,1,none⟩ (.slice Ax xl.length cx)).setCell ⟨b10,2,none⟩ (.bool xb)).setCell ⟨b10,3,none⟩ (.string xq)) = w12 at A10 A612 HB12 ⊢
    refine (laws_lpAddr.calls k xh _ _ xl xb xq qh _ _ ql qb qq r w12 (Kd.R_reads' A10.out.row).2.2 (Kd.R_reads' A10.out.row).2.1 (Kd.R_reads' A612.out.row).2.2 (Kd.R_reads' A612.out.row).2.1 H6.out).mono ?_
    rintro e w13 ⟨rfl,hb⟩
    have HB13:=Aside0.mk (below_step HB12.out hb)
    clear hb HB12 A10 A612
    go_wp2
    go_ret
    exact ⟨rfl,HB13.out⟩
   ·have hgo:¬ (xs.getD i 0 = 47 ∨ xs.getD i 0 = 63 ∨ xs.getD i 0 = 35):=by rw [HX_.out];omega
    have HGO:=Aside0.mk hgo
    have b1:(x != 47) = true:=bne_iff_ne.mpr n1
    have b2:(x != 63) = true:=bne_iff_ne.mpr n2
    have b3:(x != 35) = true:=bne_iff_ne.mpr n3
    clear n1 n2 n3 hgo
    by_cases u1:97 ≤ x
    ·by_cases u2:x ≤ 122
     ·have HG2:=Aside0.mk (laws_FnAddrGreat.gr_next HI.out HG.out HGO.out (x - 32) (by rw [HX_.out,if_pos ⟨u1,u2⟩]))
      have HN:=Aside0.mk (HK.out.set i (x - 32))
      have HY2:=Aside0.mk (laws_FnAddrGreat.bytes_set (i:=i) (y:=x - 32) HY.out (by omega))
      go_wp2
      go_roundg (t.size - (i + 1))
      case measure=>omega
      case rel=>exact ⟨i + 1,xs.set i (x - 32),by go_num,by omega,by omega,⟨by rw [List.length_set];exact HL.out⟩,HG2,HY2,HN⟩
     ·skip
      have HG2:=Aside0.mk (show xs.take (i + 1) ++ laws_FnAddrGreat.gr (xs.drop (i + 1)) = F by have h_:=laws_FnAddrGreat.gr_next HI.out HG.out HGO.out (xs.getD i 0) (by rw [HX_.out,if_neg (by omega)]);rw [laws_FnAddrGreat.same HI.out] at h_;exact h_)
      go_wp2
      go_roundg (t.size - (i + 1))
      case measure=>omega
      case rel=>exact ⟨i + 1,xs,by go_num,by omega,by omega,HL,HG2,HY,HK⟩
    ·skip
     have HG2:=Aside0.mk (show xs.take (i + 1) ++ laws_FnAddrGreat.gr (xs.drop (i + 1)) = F by have h_:=laws_FnAddrGreat.gr_next HI.out HG.out HGO.out (xs.getD i 0) (by rw [HX_.out,if_neg (by omega)]);rw [laws_FnAddrGreat.same HI.out] at h_;exact h_)
     go_wp2
     go_roundg (t.size - (i + 1))
     case measure=>omega
     case rel=>exact ⟨i + 1,xs,by go_num,by omega,by omega,HL,HG2,HY,HK⟩

end Go.Proofs.YtochmlkladpfgaaDoor.P
