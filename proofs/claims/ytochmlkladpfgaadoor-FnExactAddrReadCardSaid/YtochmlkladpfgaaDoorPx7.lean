-- Written by a program of this session (patch_print.py over the kit's print; given texts in wip/given).
import Derived.Test.YtochmlkladpfgaaDoorPx0
import Derived.Test.YtochmlkladpfgaaDoorPx2
import Derived.Test.YtochmlkladpfgaaDoorPx4
import Derived.Test.YtochmlkladpfgaaDoorPx5
import Derived.Test.YtochmlkladpfgaaDoorPx6
namespace Go.Proofs.YtochmlkladpfgaaDoor.P
open Go.RowKit Go.Proofs.YtochmlkladpfgaaDoorW.PrintWords Go.Proofs.YtochmlkladpfgaaDoorW.PrintLast Go.Proofs.YtochmlkladpfgaaDoorW.PrintMore
attribute [local go_sem] max2_int min2_int max_two min_two max_three min_three max_four min_four   -- for this text's walks alone
set_option linter.unusedVariables false
set_option linter.unusedSimpArgs false
set_option maxHeartbeats 8000000
set_option maxRecDepth 100000

/-! ### impl_readWay: function 43 -/
def impl_readWay.l0:Nat → ByteArray → ByteArray → Bool → List ByteArray → List ByteArray → Int → Int → Option (ByteArray × List ByteArray × Bool × ByteArray × Bool)
 | 0,_,_,_,_,_,_,_=>none
 | k + 1,x0,x9,x10,x12,x35,x36,x37=>if x37 < x36 then (if 0 ≤ x37 then (if x37 < (x35.length:Int) then ((impl_EscNorm.f k (rdOf ByteArray.empty x35 x37)).bind fun bt189=>(if bt189.2 = true then (if x12.length < 8796093022208 then (impl_readWay.l0 k x0 x9 x10 (x12 ++ [bt189.1]) x35 x36 (wrap64 (x37 + 1))) else (none)) else (some ((⟨#[]⟩:ByteArray),([]:List ByteArray),false,(⟨#[]⟩:ByteArray),false)))) else (none)) else (none)) else ((impl_PathClean.f k x12).bind fun t194=>((impl_AddrOk.f k x0 t194 x10 x9).bind fun t198=>(if t198 = true then (some (x0,t194,x10,x9,true)) else (some ((⟨#[]⟩:ByteArray),([]:List ByteArray),false,(⟨#[]⟩:ByteArray),false)))))
def impl_readWay.f (k:Nat) (a0:ByteArray) (l1:List ByteArray) (a2:ByteArray):Option (ByteArray × List ByteArray × Bool × ByteArray × Bool):=(strings_Cut.f a2 (⟨#[63]⟩:ByteArray)).bind fun bt177=>((impl_EscNorm.f k bt177.2.1).bind fun bt180=>(if bt180.2 = true then ((slices_Clone_string_string.f l1).bind fun t182=>((strings_Split.f k bt177.1 (⟨#[47]⟩:ByteArray)).bind fun t185=>(impl_readWay.l0 k a0 bt180.1 bt177.2.2 t182 t185 (t185.length:Int) 0))) else (some ((⟨#[]⟩:ByteArray),([]:List ByteArray),false,(⟨#[]⟩:ByteArray),false))))
theorem impl_readWay.mono_l:∀ k,(∀ y0 y1 y2 y3 y4 y5 y6,LeO (impl_readWay.l0 k y0 y1 y2 y3 y4 y5 y6) (impl_readWay.l0 (k + 1) y0 y1 y2 y3 y4 y5 y6))
 | 0=>fun _ _ _ _ _ _ _ r h=>by simp [impl_readWay.l0] at h
 | k + 1=>by
  have ih0:=impl_readWay.mono_l k
  ·intro y0 y1 y2 y3 y4 y5 y6
   unfold impl_readWay.l0
   repeat' first
   | (with_reducible exact ih0 _ _ _ _ _ _ _)
   | (with_reducible exact impl_AddrOk.mono _ _ _ _ _)
   | (with_reducible exact impl_EscNorm.mono _ _)
   | (with_reducible exact impl_PathClean.mono _ _)
   | (with_reducible exact strings_Split.mono _ _ _)
   | (with_reducible exact LeO.refl _)
   | (with_reducible exact LeO.none _)
   | (with_reducible refine LeO.ite ?_ ?_)
   | (with_reducible refine LeO.bind ?_ (fun _=>?_))
   | exact ih0 _ _ _ _ _ _ _
   | exact impl_AddrOk.mono _ _ _ _ _
   | exact impl_EscNorm.mono _ _
   | exact impl_PathClean.mono _ _
   | exact strings_Split.mono _ _ _
   | exact LeO.none _
   | refine LeO.ite ?_ ?_
   | refine LeO.bind ?_ (fun _=>?_)
theorem impl_readWay.mono:∀ a0 a1 a2 k,LeO (impl_readWay.f k a0 a1 a2) (impl_readWay.f (k + 1) a0 a1 a2):=by
 intro a0 a1 a2 k
 have ih0:=impl_readWay.mono_l k
 unfold impl_readWay.f
 repeat' first
   | (with_reducible exact ih0 _ _ _ _ _ _ _)
   | (with_reducible exact impl_AddrOk.mono _ _ _ _ _)
   | (with_reducible exact impl_EscNorm.mono _ _)
   | (with_reducible exact impl_PathClean.mono _ _)
   | (with_reducible exact strings_Split.mono _ _ _)
   | (with_reducible exact LeO.refl _)
   | (with_reducible exact LeO.none _)
   | (with_reducible refine LeO.ite ?_ ?_)
   | (with_reducible refine LeO.bind ?_ (fun _=>?_))
   | exact ih0 _ _ _ _ _ _ _
   | exact impl_AddrOk.mono _ _ _ _ _
   | exact impl_EscNorm.mono _ _
   | exact impl_PathClean.mono _ _
   | exact strings_Split.mono _ _ _
   | exact LeO.none _
   | refine LeO.ite ?_ ?_
   | refine LeO.bind ?_ (fun _=>?_)
theorem impl_readWay.calls (k:Nat) (a0:ByteArray) (A1:Option Addr) (c1:Nat) (l1:List ByteArray) (a2:ByteArray) (r1:ByteArray) (r2:List ByteArray) (r3:Bool) (r4:ByteArray) (r5:Bool) (w:World) (hr1:Kd.C Kd.string w A1 l1.length l1) (hc1:l1.length ≤ c1) (h:impl_readWay.f k a0 l1 a2 = some (r1,r2,r3,r4,r5)) :
  Calls Tryd.prog 43 #[.string a0,.slice A1 l1.length c1,.string a2] w fun e w'=>∃ v1_:Value,e = .returned (.tuple #[.agg #[.string r1,v1_,.bool r3,.string r4],.bool r5]) ∧ Kd.R Kd.string 9 w' w.heap.size (fun _=>True) v1_ r2 ∧ Below w.heap.size w w':=by
 have hu24:=Tryd.underlying24
 have HR1:=Aside0.mk hr1
 have HC1:=Aside0.mk hc1
 clear hr1 hc1
 have HB:=Aside0.mk (Below.refl w.heap.size w)
 have H:((strings_Cut.f a2 (⟨#[63]⟩:ByteArray)).bind fun bt177=>((impl_EscNorm.f k bt177.2.1).bind fun bt180=>(if bt180.2 = true then ((slices_Clone_string_string.f l1).bind fun t182=>((strings_Split.f k bt177.1 (⟨#[47]⟩:ByteArray)).bind fun t185=>(impl_readWay.l0 k a0 bt180.1 bt177.2.2 t182 t185 (t185.length:Int) 0))) else (some ((⟨#[]⟩:ByteArray),([]:List ByteArray),false,(⟨#[]⟩:ByteArray),false))))) = some (r1,r2,r3,r4,r5):=h
 clear h
 replace H:=Option.bind_eq_some_iff.mp H
 obtain ⟨⟨t177,t178,t179⟩,A40,H⟩:=H
 replace H:((impl_EscNorm.f k t178).bind fun bt180=>(if bt180.2 = true then ((slices_Clone_string_string.f l1).bind fun t182=>((strings_Split.f k t177 (⟨#[47]⟩:ByteArray)).bind fun t185=>(impl_readWay.l0 k a0 bt180.1 t179 t182 t185 (t185.length:Int) 0))) else (some ((⟨#[]⟩:ByteArray),([]:List ByteArray),false,(⟨#[]⟩:ByteArray),false)))) = some (r1,r2,r3,r4,r5):=H
 have A4:=Aside0.mk A40
 clear A40
 replace H:=Option.bind_eq_some_iff.mp H
 obtain ⟨⟨t180,t181⟩,A50,H⟩:=H
 replace H:(if t181 = true then ((slices_Clone_string_string.f l1).bind fun t182=>((strings_Split.f k t177 (⟨#[47]⟩:ByteArray)).bind fun t185=>(impl_readWay.l0 k a0 t180 t179 t182 t185 (t185.length:Int) 0))) else (some ((⟨#[]⟩:ByteArray),([]:List ByteArray),false,(⟨#[]⟩:ByteArray),false))) = some (r1,r2,r3,r4,r5):=H
 have A5:=Aside0.mk A50
 clear A50
 by_cases c6:t181 = true
 ·subst c6
  have H1:((slices_Clone_string_string.f l1).bind fun t182=>((strings_Split.f k t177 (⟨#[47]⟩:ByteArray)).bind fun t185=>(impl_readWay.l0 k a0 t180 t179 t182 t185 (t185.length:Int) 0))) = some (r1,r2,r3,r4,r5):=by rw [if_pos rfl] at H;exact H
  clear H
  have H:=H1
  clear H1
  replace H:=Option.bind_eq_some_iff.mp H
  obtain ⟨t182,A70,H⟩:=H
  replace H:((strings_Split.f k t177 (⟨#[47]⟩:ByteArray)).bind fun t185=>(impl_readWay.l0 k a0 t180 t179 t182 t185 (t185.length:Int) 0)) = some (r1,r2,r3,r4,r5):=H
  have A7:=Aside0.mk A70
  clear A70
  replace H:=Option.bind_eq_some_iff.mp H
  obtain ⟨t185,A80,H⟩:=H
  replace H:(impl_readWay.l0 k a0 t180 t179 t182 t185 (t185.length:Int) 0) = some (r1,r2,r3,r4,r5):=H
  have A8:=Aside0.mk A80
  clear A80
  have H':=Aside0.mk H
  clear H
  go_enter Tryd.func43,Tryd.ntmps43
  go_wp2_with (first|((with_reducible refine gate_dst (N:=6) rfl ?_);refine box_event ?hg (N:=6) ?hd (cs:=#[.string (⟨#[]⟩:ByteArray),.slice none 0 0,.bool false,.string (⟨#[]⟩:ByteArray)]) (t:=24) ?hr ?_;(case hd=>rfl);(case hg=>rfl);(case hr=>first|(go_simp;done)|(go_simp;rfl));intro gb176 hg w9 hbox hb;have n0_:=Aside0.mk (below_step (by repeat (first|(with_reducible first|exact HB.out|apply below_alloc|apply pw_below_drewN|apply below_drew1)|exact HB.out)) hb);have n1_:=Aside0.mk (hbox);have n2_:=Aside0.mk ((by rw [hg];exact (below_size (by repeat (first|(with_reducible first|exact HB.out|apply below_alloc|apply pw_below_drewN|apply below_drew1)|exact HB.out))):w.heap.size ≤ gb176));have n3_:=n2_;clear HB;have HB:=n0_;have BK176:=n1_;have GW176:=n2_;have GE176:=n3_;clear n0_ n1_ n2_ n3_;clear hb hbox hg)|((with_reducible refine gate_callee (f:=21) rfl ?_);refine goesL_ (some 20) rfl rfl Tryd.func21 (by kernel_rfl) rfl #[.string a2,.string (⟨#[63]⟩:ByteArray)] rfl (by (try simp only [List.map_toArray,List.map_cons,List.map_nil]);first|done|rfl|(simp only [List.length_drop,List.length_take];rfl)) ?_;(with_reducible refine (strings_Cut.calls a2 (⟨#[63]⟩:ByteArray) t177 t178 t179 _ A4.out).mono ?_);rintro e w' ⟨rfl,⟨nd,rfl⟩⟩;refine ⟨_,rfl,?_⟩)|((with_reducible refine gate_callee (f:=52) rfl ?_);refine goesL_ (some 26) rfl rfl Tryd.func52 (by kernel_rfl) rfl #[.string t178] rfl (by (try simp only [List.map_toArray,List.map_cons,List.map_nil]);first|done|rfl|(simp only [List.length_drop,List.length_take];rfl)) ?_;(with_reducible refine (impl_EscNorm.calls k t178 t180 true _ A5.out).mono ?_);rintro e w10 ⟨rfl,hb⟩;refine ⟨_,rfl,?_⟩;have n0_:=Aside0.mk (blk_below (g:=gb176) (o:=.cells #[.string (⟨#[]⟩:ByteArray),.slice none 0 0,.bool false,.string (⟨#[]⟩:ByteArray)] 24 (0,0)) (by (with_reducible repeat (first|refine blk_drewN ?_ _|refine blk_drew ?_|refine blk_alloc ?_ _));exact BK176.out) hb);have n1_:=Aside0.mk (below_step (by repeat (first|(with_reducible first|exact HB.out|apply below_alloc|apply pw_below_drewN|apply below_drew1|refine below_set ?_ GE176.out)|exact HB.out)) hb);clear BK176;clear HB;have BK176:=n0_;have HB:=n1_;clear n0_ n1_;(try clear hb);(try clear hb2);(try clear hk);(try clear hi))|((with_reducible refine gate_callee (f:=62) rfl ?_);refine goesL_ (some 33) rfl rfl Tryd.func62 (by kernel_rfl) rfl #[.slice A1 l1.length c1] rfl (by (try simp only [List.map_toArray,List.map_cons,List.map_nil]);first|done|rfl|(simp only [List.length_drop,List.length_take];rfl)) ?_;(with_reducible refine (slices_Clone_string_string.calls _ _ l1 t182 _ ?side1 ?side2 A7.out).mono ?_);(case side1=>repeat (first|exact (Kd.C_below HR1.out HB.out)|(with_reducible refine Kd.C_alloc ?_ _)|(with_reducible refine Kd.C_drewN ?_ _)|(with_reducible refine Kd.C_drew ?_)));(case side2=>exact HC1.out);rintro e w11 ⟨v183,rfl,ho0,hb⟩;refine ⟨_,rfl,?_⟩;have n0_:=Aside0.mk (Kd.R_lower ho0 (below_size (by repeat (first|(with_reducible first|exact HB.out|apply below_alloc|apply pw_below_drewN|apply below_drew1|refine below_set ?_ GE176.out)|exact HB.out))));have n1_:=Aside0.mk (blk_below (g:=gb176) (o:=.cells #[.string (⟨#[]⟩:ByteArray),.slice none 0 0,.bool false,.string (⟨#[]⟩:ByteArray)] 24 (0,0)) (by (with_reducible repeat (first|refine blk_drewN ?_ _|refine blk_drew ?_|refine blk_alloc ?_ _));exact BK176.out) hb);have n2_:=Aside0.mk (below_step (by repeat (first|(with_reducible first|exact HB.out|apply below_alloc|apply pw_below_drewN|apply below_drew1|refine below_set ?_ GE176.out)|exact HB.out)) hb);clear BK176;clear HB;have HO184:=n0_;have BK176:=n1_;have HB:=n2_;clear n0_ n1_ n2_;(try clear hb);(try clear hb2);(try clear hk);(try clear hi);(try clear ho0))|((with_reducible refine gate_callee (f:=63) rfl ?_);refine goesL_ (some 35) rfl rfl Tryd.func63 (by kernel_rfl) rfl #[.string t177,.string (⟨#[47]⟩:ByteArray)] rfl (by (try simp only [List.map_toArray,List.map_cons,List.map_nil]);first|done|rfl|(simp only [List.length_drop,List.length_take];rfl)) ?_;(with_reducible refine (strings_Split.calls k t177 (⟨#[47]⟩:ByteArray) t185 _ A8.out).mono ?_);rintro e w12 ⟨v186,rfl,ho0,hb⟩;refine ⟨_,rfl,?_⟩;have n0_:=Aside0.mk (Kd.R_elder' (by (with_reducible repeat (first|apply Kd.R_alloc|apply Kd.R_drewN|apply Kd.R_drew));exact HO184.out) (Kd.R_base ho0) hb);have n1_:=Aside0.mk (Kd.R_lower (Kd.R_new' ho0 (Kd.R_lt (by (with_reducible repeat (first|apply Kd.R_alloc|apply Kd.R_drewN|apply Kd.R_drew));exact HO184.out))) (below_size (by repeat (first|(with_reducible first|exact HB.out|apply below_alloc|apply pw_below_drewN|apply below_drew1|refine below_set ?_ GE176.out)|exact HB.out))));have n2_:=Aside0.mk (blk_below (g:=gb176) (o:=.cells #[.string (⟨#[]⟩:ByteArray),.slice none 0 0,.bool false,.string (⟨#[]⟩:ByteArray)] 24 (0,0)) (by (with_reducible repeat (first|refine blk_drewN ?_ _|refine blk_drew ?_|refine blk_alloc ?_ _));exact BK176.out) hb);have n3_:=Aside0.mk (below_step (by repeat (first|(with_reducible first|exact HB.out|apply below_alloc|apply pw_below_drewN|apply below_drew1|refine below_set ?_ GE176.out)|exact HB.out)) hb);clear HO184;clear BK176;clear HB;have HO184:=n0_;have HO187:=n1_;have BK176:=n2_;have HB:=n3_;clear n0_ n1_ n2_ n3_;(try clear hb);(try clear hb2);(try clear hk);(try clear hi);(try clear ho0);obtain ⟨Ao13,co13,eo13⟩:=Kd.R_slice HO187.out;subst eo13))
  go_loopg [12,37] k (fun kq v12 v37 w'=>∃ (x12_1:List ByteArray) (x37_1:Int) (x177000_1:ByteArray) (x177002_1:Bool) (x177003_1:ByteArray),v37 = .int .i64 x37_1 ∧ Aside0 (impl_readWay.l0 kq a0 t180 t179 x12_1 t185 (t185.length:Int) x37_1 = some (r1,r2,r3,r4,r5)) ∧ Aside0 (kq ≤ k) ∧ Aside0 (Kd.R Kd.string 9 w' w.heap.size (fun k_=>some k_ ≠ ((.slice Ao13 t185.length co13):Value).ownBlock) v12 x12_1) ∧ Aside0 (Kd.R Kd.string 9 w' w.heap.size (fun k_=>some k_ ≠ (v12:Value).ownBlock) (.slice Ao13 t185.length co13) t185) ∧ Aside0 (w'.heap[gb176]? = some (.cells #[.string x177000_1,(.slice none 0 0),.bool x177002_1,.string x177003_1] 24 (0,0))) ∧ Aside0 (Below w.heap.size w w'))
  case atStart=>exact ⟨(t182),(0),((⟨#[]⟩:ByteArray)),(false),((⟨#[]⟩:ByteArray)),(by first|rfl|(simp;done)|(simp only [i64_w,i32_w];done)|(simp only [i64_w,i32_w];rfl)|(simp [*];done)|(simp [emp_bne,emp_beq];done)),H',⟨Nat.le_refl _⟩,⟨by (with_reducible repeat (first|apply Kd.R_alloc|apply Kd.R_drewN|apply Kd.R_drew));exact Kd.R_mono HO184.out (fun _ hk=>hk.2)⟩,⟨by (with_reducible repeat (first|apply Kd.R_alloc|apply Kd.R_drewN|apply Kd.R_drew));exact Kd.R_mono HO187.out (fun _ hk=>hk.2)⟩,⟨by (with_reducible repeat (first|refine blk_drewN ?_ _|refine blk_drew ?_|refine blk_alloc ?_ _));exact BK176.out⟩,⟨by repeat (first|(with_reducible first|exact HB.out|apply below_alloc|apply pw_below_drewN|apply below_drew1|refine below_set ?_ GE176.out)|exact HB.out)⟩⟩
  case round =>
   clear H'
   try clear c1
   try clear c2
   try clear p2
   try clear c4
   try clear c5
   try clear c6
   obtain ⟨x12_1,x37_1,x177000_1,x177002_1,x177003_1,rfl,HA,HK1,HO_12,HO_35,BK176,HB⟩:=hrel
   cases gk with
   | zero=>exact absurd HA.out (by simp [impl_readWay.l0])
   | succ k1 =>
    have H:=HA.out
    clear HA
    simp only [impl_readWay.l0] at H
    by_cases c14:x37_1 < (t185.length:Int)
    ·rw [if_pos c14] at H
     have c14b0:decide (x37_1 < (t185.length:Int)) = true:=decide_eq_true c14
     clear c14
     by_cases c15:0 ≤ x37_1
     ·rw [if_pos c15] at H
      have c15b0:decide (0 ≤ x37_1) = true:=decide_eq_true c15
      clear c15
      by_cases c16:x37_1 < (t185.length:Int)
      ·rw [if_pos c16] at H
       have c16b0:decide (x37_1 < (t185.length:Int)) = true:=decide_eq_true c16
       clear c16
       replace H:=Option.bind_eq_some_iff.mp H
       obtain ⟨⟨t189,t190⟩,A170,H⟩:=H
       replace H:(if t190 = true then (if x12_1.length < 8796093022208 then (impl_readWay.l0 k1 a0 t180 t179 (x12_1 ++ [t189]) t185 (t185.length:Int) (wrap64 (x37_1 + 1))) else (none)) else (some ((⟨#[]⟩:ByteArray),([]:List ByteArray),false,(⟨#[]⟩:ByteArray),false))) = some (r1,r2,r3,r4,r5):=H
       have A17:=Aside0.mk A170
       clear A170
       by_cases c18:t190 = true
       ·subst c18
        have H1:(if x12_1.length < 8796093022208 then (impl_readWay.l0 k1 a0 t180 t179 (x12_1 ++ [t189]) t185 (t185.length:Int) (wrap64 (x37_1 + 1))) else (none)) = some (r1,r2,r3,r4,r5):=by rw [if_pos rfl] at H;exact H
        clear H
        have H:=H1
        clear H1
        by_cases c19:x12_1.length < 8796093022208
        ·rw [if_pos c19] at H
         have LMc19:=Aside0.mk c19
         clear c19
         obtain ⟨y191,hy191⟩:∃ y_:List ByteArray,y_ = (x12_1 ++ [t189]):=⟨_,rfl⟩
         replace H:(impl_readWay.l0 k1 a0 t180 t179 y191 t185 (t185.length:Int) (wrap64 (x37_1 + 1))) = some (r1,r2,r3,r4,r5):=by first|(rw [hy191];with_reducible exact H)|(have H2_:=(Option.bind_some _ _).symm.trans H;rw [hy191];with_reducible exact H2_)|(have H2_:=(Option.bind_some _ _).symm.trans H;with_reducible exact H2_)|with_reducible exact H|(rw [hy191];exact H)|exact H
         have Ny191:=Aside0.mk hy191
         clear hy191
         have H':=Aside0.mk H
         clear H
         have p188:0 ≤ (x37_1:Int):=of_decide_eq_true (by first|(with_reducible assumption)|assumption)
         have q188:x37_1 < (t185.length:Int):=of_decide_eq_true (by first|(with_reducible assumption)|assumption)
         obtain ⟨ad188,e188,hx188_0⟩:=Kd.at_string (Kd.R_reads' HO_35.out).2.2 x37_1 p188 q188
         cases e188
         replace p188:=eq_true p188
         replace q188:=eq_true q188
         go_wp2_with (first|((with_reducible refine gate_callee (f:=52) rfl ?_);refine goesL_ (some 43) rfl rfl Tryd.func52 (by kernel_rfl) rfl #[.string (rdOf ByteArray.empty t185 x37_1)] rfl (by (try simp only [List.map_toArray,List.map_cons,List.map_nil]);first|done|rfl|(simp only [List.length_drop,List.length_take];rfl)) ?_;(with_reducible refine (impl_EscNorm.calls k1 (rdOf ByteArray.empty t185 x37_1) t189 true _ A17.out).mono ?_);rintro e w20 ⟨rfl,hb⟩;refine ⟨_,rfl,?_⟩;have n0_:=Aside0.mk (Kd.R_below (by (with_reducible repeat (first|apply Kd.R_alloc|apply Kd.R_drewN|apply Kd.R_drew));exact HO_12.out) hb);have n1_:=Aside0.mk (Kd.R_below (by (with_reducible repeat (first|apply Kd.R_alloc|apply Kd.R_drewN|apply Kd.R_drew));exact HO_35.out) hb);have n2_:=Aside0.mk (blk_below (g:=gb176) (o:=.cells #[.string x177000_1,.slice none 0 0,.bool x177002_1,.string x177003_1] 24 (0,0)) (by (with_reducible repeat (first|refine blk_drewN ?_ _|refine blk_drew ?_|refine blk_alloc ?_ _));exact BK176.out) hb);have n3_:=Aside0.mk (below_step (by repeat (first|(with_reducible first|exact HB.out|apply below_alloc|apply pw_below_drewN|apply below_drew1|refine below_set ?_ GE176.out)|exact HB.out)) hb);clear HO_12;clear HO_35;clear BK176;clear HB;have HO_12:=n0_;have HO_35:=n1_;have BK176:=n2_;have HB:=n3_;clear n0_ n1_ n2_ n3_;(try clear hb);(try clear hb2);(try clear hk);(try clear hi))|((with_reducible refine gate_builtin (b:=.append) (xs:=#[.tmp 49,.tmp 51]) rfl ?_);at_builtin;refine Kd.R_append Kd.string (w0:=w) w.heap.size rfl (.tmp 49) (.tmp 51) 22 9 (.string ⟨#[]⟩) 16 rfl Tryd.underlying22 info9 rfl (by decide) (by omega) u12 x12_1 t189 [.string t189] (fun k_=>some k_ ≠ (.slice (some ad188) t185.length co13:Value).ownBlock) (fun _=>False) rfl rfl ?aP (fun _ hk=>hk.elim) ?aF ?aO ?aB ?aS ?aL ?_;(case aP=>exact rfl);(case aB=>exact (by repeat (first|(with_reducible first|exact HB.out|apply below_alloc|apply pw_below_drewN|apply below_drew1|refine below_set ?_ GE176.out)|exact HB.out)));(case aF=>exact (fun k_ hk=>Kd.fresh' (Kd.R_lt (by (with_reducible repeat (first|apply Kd.R_alloc|apply Kd.R_drewN|apply Kd.R_drew));exact HO_35.out)) k_ hk));(case aO=>exact (by (with_reducible repeat (first|apply Kd.R_alloc|apply Kd.R_drewN|apply Kd.R_drew));exact HO_12.out));(case aS=>exact (below_size (by repeat (first|(with_reducible first|exact HB.out|apply below_alloc|apply pw_below_drewN|apply below_drew1|refine below_set ?_ GE176.out)|exact HB.out))));(case aL=>have:=LMc19.out;omega);intro v192 w21 ho hb hg hat;rw [← Ny191.out] at ho;have n0_:=Aside0.mk (Kd.R_after (ok:=(fun _=>True)) (by (with_reducible repeat (first|apply Kd.R_alloc|apply Kd.R_drewN|apply Kd.R_drew));exact Kd.R_mono HO_35.out (fun _ hk=>⟨trivial,hk⟩)) hg hat);have n1_:=Aside0.mk (blk_grown (g:=gb176) (o:=.cells #[.string x177000_1,.slice none 0 0,.bool x177002_1,.string x177003_1] 24 (0,0)) (by (with_reducible repeat (first|refine blk_drewN ?_ _|refine blk_drew ?_|refine blk_alloc ?_ _));exact BK176.out) hg (Kd.R_ne HO_12.out BK176.out (by decide)));have n2_:=Aside0.mk (hb);have n3_:=Aside0.mk (ho);clear HO_35;clear BK176;clear HB;clear HO_12;have HO_35:=n0_;have BK176:=n1_;have HB:=n2_;have HO193:=n3_;clear n0_ n1_ n2_ n3_;clear ho hb hg hat))
         go_roundg k1
         case measure=>have:=HK1.out;omega
         case rel=>exact ⟨(y191),(wrap64 (x37_1 + 1)),(x177000_1),(x177002_1),(x177003_1),(by first|rfl|(simp;done)|(simp only [i64_w,i32_w];done)|(simp only [i64_w,i32_w];rfl)|(simp [*];done)|(simp [emp_bne,emp_beq];done)),H',⟨by have:=HK1.out;omega⟩,⟨by (with_reducible repeat (first|apply Kd.R_alloc|apply Kd.R_drewN|apply Kd.R_drew));exact HO193.out⟩,⟨by (with_reducible repeat (first|apply Kd.R_alloc|apply Kd.R_drewN|apply Kd.R_drew));exact Kd.R_mono HO_35.out (fun _ hk=>hk.2)⟩,⟨by (with_reducible repeat (first|refine blk_drewN ?_ _|refine blk_drew ?_|refine blk_alloc ?_ _));exact BK176.out⟩,⟨by repeat (first|(with_reducible first|exact HB.out|apply below_alloc|apply pw_below_drewN|apply below_drew1|refine below_set ?_ GE176.out)|exact HB.out)⟩⟩
        ·rw [if_neg c19] at H
         exact absurd H (by simp)
       ·replace c18:=Bool.eq_false_iff.mpr c18
        subst c18
        have H1:(some ((⟨#[]⟩:ByteArray),([]:List ByteArray),false,(⟨#[]⟩:ByteArray),false)) = some (r1,r2,r3,r4,r5):=by rw [if_neg (show ¬ (false = true) by decide)] at H;exact H
        clear H
        have H:=H1
        clear H1
        simp only [Option.some.injEq,Prod.mk.injEq] at H
        obtain ⟨rfl,rfl,rfl,rfl,rfl⟩:=H
        have p188:0 ≤ (x37_1:Int):=of_decide_eq_true (by first|(with_reducible assumption)|assumption)
        have q188:x37_1 < (t185.length:Int):=of_decide_eq_true (by first|(with_reducible assumption)|assumption)
        obtain ⟨ad188,e188,hx188_0⟩:=Kd.at_string (Kd.R_reads' HO_35.out).2.2 x37_1 p188 q188
        cases e188
        replace p188:=eq_true p188
        replace q188:=eq_true q188
        go_wp2_with (first|((with_reducible refine gate_callee (f:=52) rfl ?_);refine goesL_ (some 43) rfl rfl Tryd.func52 (by kernel_rfl) rfl #[.string (rdOf ByteArray.empty t185 x37_1)] rfl (by (try simp only [List.map_toArray,List.map_cons,List.map_nil]);first|done|rfl|(simp only [List.length_drop,List.length_take];rfl)) ?_;(with_reducible refine (impl_EscNorm.calls k1 (rdOf ByteArray.empty t185 x37_1) t189 false _ A17.out).mono ?_);rintro e w22 ⟨rfl,hb⟩;refine ⟨_,rfl,?_⟩;have n0_:=Aside0.mk (Kd.R_below (by (with_reducible repeat (first|apply Kd.R_alloc|apply Kd.R_drewN|apply Kd.R_drew));exact HO_12.out) hb);have n1_:=Aside0.mk (Kd.R_below (by (with_reducible repeat (first|apply Kd.R_alloc|apply Kd.R_drewN|apply Kd.R_drew));exact HO_35.out) hb);have n2_:=Aside0.mk (blk_below (g:=gb176) (o:=.cells #[.string x177000_1,.slice none 0 0,.bool x177002_1,.string x177003_1] 24 (0,0)) (by (with_reducible repeat (first|refine blk_drewN ?_ _|refine blk_drew ?_|refine blk_alloc ?_ _));exact BK176.out) hb);have n3_:=Aside0.mk (below_step (by repeat (first|(with_reducible first|exact HB.out|apply below_alloc|apply pw_below_drewN|apply below_drew1|refine below_set ?_ GE176.out)|exact HB.out)) hb);clear HO_12;clear HO_35;clear BK176;clear HB;have HO_12:=n0_;have HO_35:=n1_;have BK176:=n2_;have HB:=n3_;clear n0_ n1_ n2_ n3_;(try clear hb);(try clear hb2);(try clear hk);(try clear hi);have hcz23_0:w22.cell? ⟨gb176,0,none⟩ = some (.string x177000_1):=(blk_cell BK176.out 0).trans rfl;have hcz23_1:w22.cell? ⟨gb176,1,none⟩ = some (.slice none 0 0):=(blk_cell BK176.out 1).trans rfl;have hcz23_2:w22.cell? ⟨gb176,2,none⟩ = some (.bool x177002_1):=(blk_cell BK176.out 2).trans rfl;have hcz23_3:w22.cell? ⟨gb176,3,none⟩ = some (.string x177003_1):=(blk_cell BK176.out 3).trans rfl;have hfz23_0:=blk_frozen BK176.out 0;have hfz23_1:=blk_frozen BK176.out 1;have hfz23_2:=blk_frozen BK176.out 2;have hfz23_3:=blk_frozen BK176.out 3))
        refine bodyPost_ret (results_ct rfl _ _ gb176 24 #[.string (⟨#[]⟩:ByteArray),.slice none 0 0,.bool false,.string (⟨#[]⟩:ByteArray)] (0,0) _ rfl (by (with_reducible repeat (first|refine blk_drewN ?_ _|refine blk_drew ?_|refine blk_alloc ?_ _));refine blk_put (cs:=#[.string (⟨#[]⟩:ByteArray),.slice none 0 0,.bool false,.string x177003_1]) ?_ 3 _ rfl;(with_reducible repeat (first|refine blk_drewN ?_ _|refine blk_drew ?_|refine blk_alloc ?_ _));refine blk_put (cs:=#[.string (⟨#[]⟩:ByteArray),.slice none 0 0,.bool x177002_1,.string x177003_1]) ?_ 2 _ rfl;(with_reducible repeat (first|refine blk_drewN ?_ _|refine blk_drew ?_|refine blk_alloc ?_ _));refine blk_put (cs:=#[.string (⟨#[]⟩:ByteArray),.slice none 0 0,.bool x177002_1,.string x177003_1]) ?_ 1 _ rfl;(with_reducible repeat (first|refine blk_drewN ?_ _|refine blk_drew ?_|refine blk_alloc ?_ _));refine blk_put (cs:=#[.string x177000_1,.slice none 0 0,.bool x177002_1,.string x177003_1]) ?_ 0 _ rfl;(with_reducible repeat (first|refine blk_drewN ?_ _|refine blk_drew ?_|refine blk_alloc ?_ _));exact BK176.out) Tryd.underlying24 rfl (by kernel_rfl)) rfl ?_
        exact ⟨_,by first|rfl|(simp <;> rfl)|(simp [*] <;> rfl),by first|exact Kd.R_nil _ _ _ _ _|exact Kd.N_nil _ _ _ _ _|exact Kd.V_nil _ _ _ _ _|exact Kd.Q_nil _ _ _ _ _|exact Kd.S_nil _ _ _ _ _,by repeat (first|(with_reducible first|exact HB.out|apply below_alloc|apply pw_below_drewN|apply below_drew1|refine below_set ?_ GE176.out)|exact HB.out)⟩
      ·rw [if_neg c16] at H
       exact absurd H (by simp)
     ·rw [if_neg c15] at H
      exact absurd H (by simp)
    ·rw [if_neg c14] at H
     have c14b0:decide (x37_1 < (t185.length:Int)) = false:=decide_eq_false c14
     clear c14
     replace H:=Option.bind_eq_some_iff.mp H
     obtain ⟨t194,A240,H⟩:=H
     replace H:((impl_AddrOk.f k1 a0 t194 t179 t180).bind fun t198=>(if t198 = true then (some (a0,t194,t179,t180,true)) else (some ((⟨#[]⟩:ByteArray),([]:List ByteArray),false,(⟨#[]⟩:ByteArray),false)))) = some (r1,r2,r3,r4,r5):=H
     have A24:=Aside0.mk A240
     clear A240
     replace H:=Option.bind_eq_some_iff.mp H
     obtain ⟨t198,A250,H⟩:=H
     replace H:(if t198 = true then (some (a0,t194,t179,t180,true)) else (some ((⟨#[]⟩:ByteArray),([]:List ByteArray),false,(⟨#[]⟩:ByteArray),false))) = some (r1,r2,r3,r4,r5):=H
     have A25:=Aside0.mk A250
     clear A250
     by_cases c26:t198 = true
     ·subst c26
      have H1:(some (a0,t194,t179,t180,true)) = some (r1,r2,r3,r4,r5):=by rw [if_pos rfl] at H;exact H
      clear H
      have H:=H1
      clear H1
      simp only [Option.some.injEq,Prod.mk.injEq] at H
      obtain ⟨rfl,rfl,rfl,rfl,rfl⟩:=H
      obtain ⟨Ao27,co27,eo27⟩:=Kd.R_slice HO_12.out
      subst eo27
      go_wp2_with (first|((with_reducible refine gate_callee (f:=64) rfl ?_);refine goesL_ (some 56) rfl rfl Tryd.func64 (by kernel_rfl) rfl #[.slice Ao27 x12_1.length co27] rfl (by (try simp only [List.map_toArray,List.map_cons,List.map_nil]);first|done|rfl|(simp only [List.length_drop,List.length_take];rfl)) ?_;(with_reducible refine (impl_PathClean.calls k1 _ _ x12_1 t194 _ ?side1 ?side2 A24.out).mono ?_);(case side1=>repeat (first|exact (Kd.R_reads' HO_12.out).2.2|(with_reducible refine Kd.C_alloc ?_ _)|(with_reducible refine Kd.C_drewN ?_ _)|(with_reducible refine Kd.C_drew ?_)));(case side2=>exact (Kd.R_reads' HO_12.out).2.1);rintro e w28 ⟨v195,rfl,ho0,hb⟩;refine ⟨_,rfl,?_⟩;have n0_:=Aside0.mk (Kd.R_elder' (by (with_reducible repeat (first|apply Kd.R_alloc|apply Kd.R_drewN|apply Kd.R_drew));exact HO_12.out) (Kd.R_base ho0) hb);have n1_:=Aside0.mk (Kd.R_elder' (by (with_reducible repeat (first|apply Kd.R_alloc|apply Kd.R_drewN|apply Kd.R_drew));exact HO_35.out) (Kd.R_base ho0) hb);have n2_:=Aside0.mk (Kd.R_lower (Kd.R_new' (Kd.R_new' ho0 (Kd.R_lt (by (with_reducible repeat (first|apply Kd.R_alloc|apply Kd.R_drewN|apply Kd.R_drew));exact HO_12.out))) (Kd.R_lt (by (with_reducible repeat (first|apply Kd.R_alloc|apply Kd.R_drewN|apply Kd.R_drew));exact HO_35.out))) (below_size (by repeat (first|(with_reducible first|exact HB.out|apply below_alloc|apply pw_below_drewN|apply below_drew1|refine below_set ?_ GE176.out)|exact HB.out))));have n3_:=Aside0.mk (blk_below (g:=gb176) (o:=.cells #[.string x177000_1,.slice none 0 0,.bool x177002_1,.string x177003_1] 24 (0,0)) (by (with_reducible repeat (first|refine blk_drewN ?_ _|refine blk_drew ?_|refine blk_alloc ?_ _));exact BK176.out) hb);have n4_:=Aside0.mk (below_step (by repeat (first|(with_reducible first|exact HB.out|apply below_alloc|apply pw_below_drewN|apply below_drew1|refine below_set ?_ GE176.out)|exact HB.out)) hb);clear HO_12;clear HO_35;clear BK176;clear HB;have HO_12:=n0_;have HO_35:=n1_;have HO196:=n2_;have BK176:=n3_;have HB:=n4_;clear n0_ n1_ n2_ n3_ n4_;(try clear hb);(try clear hb2);(try clear hk);(try clear hi);(try clear ho0);obtain ⟨Ao29,co29,eo29⟩:=Kd.R_slice HO196.out;subst eo29)|((with_reducible refine gate_dst (N:=17) rfl ?_);refine box_event ?hg (N:=17) ?hd (cs:=#[.string (⟨#[]⟩:ByteArray),.slice none 0 0,.bool false,.string (⟨#[]⟩:ByteArray)]) (t:=24) ?hr ?_;(case hd=>rfl);(case hg=>rfl);(case hr=>first|(go_simp;done)|(go_simp;rfl));intro gb197 hg w30 hbox hb;have n0_:=Aside0.mk (Kd.R_below (by (with_reducible repeat (first|apply Kd.R_alloc|apply Kd.R_drewN|apply Kd.R_drew));exact HO_12.out) hb);have n1_:=Aside0.mk (Kd.R_below (by (with_reducible repeat (first|apply Kd.R_alloc|apply Kd.R_drewN|apply Kd.R_drew));exact HO_35.out) hb);have n2_:=Aside0.mk (Kd.R_below (by (with_reducible repeat (first|apply Kd.R_alloc|apply Kd.R_drewN|apply Kd.R_drew));exact HO196.out) hb);have n3_:=Aside0.mk (blk_below (g:=gb176) (o:=.cells #[.string x177000_1,.slice none 0 0,.bool x177002_1,.string x177003_1] 24 (0,0)) (by (with_reducible repeat (first|refine blk_drewN ?_ _|refine blk_drew ?_|refine blk_alloc ?_ _));exact BK176.out) hb);have n4_:=Aside0.mk (below_step (by repeat (first|(with_reducible first|exact HB.out|apply below_alloc|apply pw_below_drewN|apply below_drew1|refine below_set ?_ GE176.out)|exact HB.out)) hb);have n5_:=Aside0.mk (hbox);have n6_:=Aside0.mk ((by rw [hg];exact (below_size (by repeat (first|(with_reducible first|exact HB.out|apply below_alloc|apply pw_below_drewN|apply below_drew1|refine below_set ?_ GE176.out)|exact HB.out))):w.heap.size ≤ gb197));have n7_:=n6_;have n8_:=Aside0.mk ((by rw [hg];exact Nat.ne_of_lt (blk_lt (g:=gb176) (o:=.cells #[.string x177000_1,.slice none 0 0,.bool x177002_1,.string x177003_1] 24 (0,0)) (by (with_reducible repeat (first|refine blk_drewN ?_ _|refine blk_drew ?_|refine blk_alloc ?_ _));exact BK176.out)):gb176 ≠ gb197));have n9_:=Aside0.mk ((by rw [hg];exact Nat.ne_of_gt (blk_lt (g:=gb176) (o:=.cells #[.string x177000_1,.slice none 0 0,.bool x177002_1,.string x177003_1] 24 (0,0)) (by (with_reducible repeat (first|refine blk_drewN ?_ _|refine blk_drew ?_|refine blk_alloc ?_ _));exact BK176.out)):gb197 ≠ gb176));clear HO_12;clear HO_35;clear HO196;clear BK176;clear HB;have HO_12:=n0_;have HO_35:=n1_;have HO196:=n2_;have BK176:=n3_;have HB:=n4_;have BK197:=n5_;have GW197:=n6_;have GE197:=n7_;have NB176_197:=n8_;have NB197_176:=n9_;clear n0_ n1_ n2_ n3_ n4_ n5_ n6_ n7_ n8_ n9_;clear hb hbox hg;have hnb31:=NB197_176.out;have hnc31:=NB176_197.out;have hcz32_0:w30.cell? ⟨gb197,0,none⟩ = some (.string (⟨#[]⟩:ByteArray)):=(blk_cell BK197.out 0).trans rfl;have hcz32_1:w30.cell? ⟨gb197,1,none⟩ = some (.slice none 0 0):=(blk_cell BK197.out 1).trans rfl;have hcz32_2:w30.cell? ⟨gb197,2,none⟩ = some (.bool false):=(blk_cell BK197.out 2).trans rfl;have hcz32_3:w30.cell? ⟨gb197,3,none⟩ = some (.string (⟨#[]⟩:ByteArray)):=(blk_cell BK197.out 3).trans rfl;have hfz32_0:=blk_frozen BK197.out 0;have hfz32_1:=blk_frozen BK197.out 1;have hfz32_2:=blk_frozen BK197.out 2;have hfz32_3:=blk_frozen BK197.out 3)|((with_reducible refine gate_callee (f:=18) rfl ?_);refine goesL_ (some 61) rfl rfl Tryd.func18 (by kernel_rfl) rfl #[.agg #[.string a0,.slice Ao29 t194.length co29,.bool t179,.string t180]] rfl (by (try simp only [List.map_toArray,List.map_cons,List.map_nil]);first|done|rfl|(simp only [List.length_drop,List.length_take];rfl)) ?_;(with_reducible refine (impl_AddrOk.calls k1 a0 _ _ t194 t179 t180 true _ ?side1 ?side2 A25.out).mono ?_);(case side1=>refine (Kd.R_reads' (e:=9) (base:=w.heap.size) (ok:=fun k_=>((True ∧ some k_ ≠ (.slice Ao27 x12_1.length co27:Value).ownBlock) ∧ some k_ ≠ (.slice Ao13 t185.length co13:Value).ownBlock)) (n:=t194.length) (c:=co29) ?_).2.2;exact (by (with_reducible repeat (first|apply Kd.R_alloc|apply Kd.R_drewN|apply Kd.R_drew));exact (Kd.R_mono (Kd.R_far (p:=⟨gb197,3,none⟩) (Kd.R_far (p:=⟨gb197,2,none⟩) (Kd.R_far (p:=⟨gb197,1,none⟩) (Kd.R_far (p:=⟨gb197,0,none⟩) (Kd.R_types HO196.out BK197.out (by decide)) (fun _ hk=>hk.2) (.string a0)) (fun _ hk=>hk.2) (.slice Ao29 t194.length co29)) (fun _ hk=>hk.2) (.bool t179)) (fun _ hk=>hk.2) (.string t180)) (fun _ h_=>h_.1))));(case side2=>exact (Kd.R_reads' HO196.out).2.1);rintro e w33 ⟨rfl,hb⟩;refine ⟨_,rfl,?_⟩;have n0_:=Aside0.mk (Kd.R_below (by (with_reducible repeat (first|apply Kd.R_alloc|apply Kd.R_drewN|apply Kd.R_drew));exact (Kd.R_mono (Kd.R_far (p:=⟨gb197,3,none⟩) (Kd.R_far (p:=⟨gb197,2,none⟩) (Kd.R_far (p:=⟨gb197,1,none⟩) (Kd.R_far (p:=⟨gb197,0,none⟩) (Kd.R_types HO_12.out BK197.out (by decide)) (fun _ hk=>hk.2) (.string a0)) (fun _ hk=>hk.2) (.slice Ao29 t194.length co29)) (fun _ hk=>hk.2) (.bool t179)) (fun _ hk=>hk.2) (.string t180)) (fun _ h_=>h_.1))) hb);have n1_:=Aside0.mk (Kd.R_below (by (with_reducible repeat (first|apply Kd.R_alloc|apply Kd.R_drewN|apply Kd.R_drew));exact (Kd.R_mono (Kd.R_far (p:=⟨gb197,3,none⟩) (Kd.R_far (p:=⟨gb197,2,none⟩) (Kd.R_far (p:=⟨gb197,1,none⟩) (Kd.R_far (p:=⟨gb197,0,none⟩) (Kd.R_types HO_35.out BK197.out (by decide)) (fun _ hk=>hk.2) (.string a0)) (fun _ hk=>hk.2) (.slice Ao29 t194.length co29)) (fun _ hk=>hk.2) (.bool t179)) (fun _ hk=>hk.2) (.string t180)) (fun _ h_=>h_.1))) hb);have n2_:=Aside0.mk (Kd.R_below (by (with_reducible repeat (first|apply Kd.R_alloc|apply Kd.R_drewN|apply Kd.R_drew));exact (Kd.R_mono (Kd.R_far (p:=⟨gb197,3,none⟩) (Kd.R_far (p:=⟨gb197,2,none⟩) (Kd.R_far (p:=⟨gb197,1,none⟩) (Kd.R_far (p:=⟨gb197,0,none⟩) (Kd.R_types HO196.out BK197.out (by decide)) (fun _ hk=>hk.2) (.string a0)) (fun _ hk=>hk.2) (.slice Ao29 t194.length co29)) (fun _ hk=>hk.2) (.bool t179)) (fun _ hk=>hk.2) (.string t180)) (fun _ h_=>h_.1))) hb);have n3_:=Aside0.mk (blk_below (g:=gb176) (o:=.cells #[.string x177000_1,.slice none 0 0,.bool x177002_1,.string x177003_1] 24 (0,0)) (by (with_reducible repeat (first|refine blk_drewN ?_ _|refine blk_drew ?_|refine blk_alloc ?_ _));refine blk_far ?_ NB176_197.out _;(with_reducible repeat (first|refine blk_drewN ?_ _|refine blk_drew ?_|refine blk_alloc ?_ _));refine blk_far ?_ NB176_197.out _;(with_reducible repeat (first|refine blk_drewN ?_ _|refine blk_drew ?_|refine blk_alloc ?_ _));refine blk_far ?_ NB176_197.out _;(with_reducible repeat (first|refine blk_drewN ?_ _|refine blk_drew ?_|refine blk_alloc ?_ _));refine blk_far ?_ NB176_197.out _;(with_reducible repeat (first|refine blk_drewN ?_ _|refine blk_drew ?_|refine blk_alloc ?_ _));exact BK176.out) hb);have n4_:=Aside0.mk (blk_below (g:=gb197) (o:=.cells #[.string a0,.slice Ao29 t194.length co29,.bool t179,.string t180] 24 (0,0)) (by (with_reducible repeat (first|refine blk_drewN ?_ _|refine blk_drew ?_|refine blk_alloc ?_ _));refine blk_put (cs:=#[.string a0,.slice Ao29 t194.length co29,.bool t179,.string (⟨#[]⟩:ByteArray)]) ?_ 3 _ rfl;(with_reducible repeat (first|refine blk_drewN ?_ _|refine blk_drew ?_|refine blk_alloc ?_ _));refine blk_put (cs:=#[.string a0,.slice Ao29 t194.length co29,.bool false,.string (⟨#[]⟩:ByteArray)]) ?_ 2 _ rfl;(with_reducible repeat (first|refine blk_drewN ?_ _|refine blk_drew ?_|refine blk_alloc ?_ _));refine blk_put (cs:=#[.string a0,.slice none 0 0,.bool false,.string (⟨#[]⟩:ByteArray)]) ?_ 1 _ rfl;(with_reducible repeat (first|refine blk_drewN ?_ _|refine blk_drew ?_|refine blk_alloc ?_ _));refine blk_put (cs:=#[.string (⟨#[]⟩:ByteArray),.slice none 0 0,.bool false,.string (⟨#[]⟩:ByteArray)]) ?_ 0 _ rfl;(with_reducible repeat (first|refine blk_drewN ?_ _|refine blk_drew ?_|refine blk_alloc ?_ _));exact BK197.out) hb);have n5_:=Aside0.mk (below_step (by repeat (first|(with_reducible first|exact HB.out|apply below_alloc|apply pw_below_drewN|apply below_drew1|refine below_set ?_ GE176.out|refine below_set ?_ GE197.out)|exact HB.out)) hb);clear HO_12;clear HO_35;clear HO196;clear BK176;clear BK197;clear HB;have HO_12:=n0_;have HO_35:=n1_;have HO196:=n2_;have BK176:=n3_;have BK197:=n4_;have HB:=n5_;clear n0_ n1_ n2_ n3_ n4_ n5_;(try clear hb);(try clear hb2);(try clear hk);(try clear hi);have hcz34_0:w33.cell? ⟨gb197,0,none⟩ = some (.string a0):=(blk_cell BK197.out 0).trans rfl;have hcz34_1:w33.cell? ⟨gb197,1,none⟩ = some (.slice Ao29 t194.length co29):=(blk_cell BK197.out 1).trans rfl;have hcz34_2:w33.cell? ⟨gb197,2,none⟩ = some (.bool t179):=(blk_cell BK197.out 2).trans rfl;have hcz34_3:w33.cell? ⟨gb197,3,none⟩ = some (.string t180):=(blk_cell BK197.out 3).trans rfl;have hfz34_0:=blk_frozen BK197.out 0;have hfz34_1:=blk_frozen BK197.out 1;have hfz34_2:=blk_frozen BK197.out 2;have hfz34_3:=blk_frozen BK197.out 3;have hcz35_0:w33.cell? ⟨gb176,0,none⟩ = some (.string x177000_1):=(blk_cell BK176.out 0).trans rfl;have hcz35_1:w33.cell? ⟨gb176,1,none⟩ = some (.slice none 0 0):=(blk_cell BK176.out 1).trans rfl;have hcz35_2:w33.cell? ⟨gb176,2,none⟩ = some (.bool x177002_1):=(blk_cell BK176.out 2).trans rfl;have hcz35_3:w33.cell? ⟨gb176,3,none⟩ = some (.string x177003_1):=(blk_cell BK176.out 3).trans rfl;have hfz35_0:=blk_frozen BK176.out 0;have hfz35_1:=blk_frozen BK176.out 1;have hfz35_2:=blk_frozen BK176.out 2;have hfz35_3:=blk_frozen BK176.out 3))
      refine bodyPost_ret (results_ct rfl _ _ gb176 24 #[.string a0,.slice Ao29 t194.length co29,.bool t179,.string t180] (0,0) _ rfl (by (with_reducible repeat (first|refine blk_drewN ?_ _|refine blk_drew ?_|refine blk_alloc ?_ _));refine blk_put (cs:=#[.string a0,.slice Ao29 t194.length co29,.bool t179,.string x177003_1]) ?_ 3 _ rfl;(with_reducible repeat (first|refine blk_drewN ?_ _|refine blk_drew ?_|refine blk_alloc ?_ _));refine blk_put (cs:=#[.string a0,.slice Ao29 t194.length co29,.bool x177002_1,.string x177003_1]) ?_ 2 _ rfl;(with_reducible repeat (first|refine blk_drewN ?_ _|refine blk_drew ?_|refine blk_alloc ?_ _));refine blk_put (cs:=#[.string a0,.slice none 0 0,.bool x177002_1,.string x177003_1]) ?_ 1 _ rfl;(with_reducible repeat (first|refine blk_drewN ?_ _|refine blk_drew ?_|refine blk_alloc ?_ _));refine blk_put (cs:=#[.string x177000_1,.slice none 0 0,.bool x177002_1,.string x177003_1]) ?_ 0 _ rfl;(with_reducible repeat (first|refine blk_drewN ?_ _|refine blk_drew ?_|refine blk_alloc ?_ _));exact BK176.out) Tryd.underlying24 rfl (by kernel_rfl)) rfl ?_
      exact ⟨_,by first|rfl|(simp <;> rfl)|(simp [*] <;> rfl),by (with_reducible repeat (first|apply Kd.R_alloc|apply Kd.R_drewN|apply Kd.R_drew));exact Kd.R_mono (Kd.R_far (p:=⟨gb176,3,none⟩) (Kd.R_far (p:=⟨gb176,2,none⟩) (Kd.R_far (p:=⟨gb176,1,none⟩) (Kd.R_far (p:=⟨gb176,0,none⟩) (Kd.R_types HO196.out BK176.out (by decide)) (fun _ hk=>hk.2) (.string a0)) (fun _ hk=>hk.2) (.slice Ao29 t194.length co29)) (fun _ hk=>hk.2) (.bool t179)) (fun _ hk=>hk.2) (.string t180)) (fun _ hk=>trivial),by repeat (first|(with_reducible first|exact HB.out|apply below_alloc|apply pw_below_drewN|apply below_drew1|refine below_set ?_ GE176.out|refine below_set ?_ GE197.out)|exact HB.out)⟩
     ·replace c26:=Bool.eq_false_iff.mpr c26
      subst c26
      have H1:(some ((⟨#[]⟩:ByteArray),([]:List ByteArray),false,(⟨#[]⟩:ByteArray),false)) = some (r1,r2,r3,r4,r5):=by rw [if_neg (show ¬ (false = true) by decide)] at H;exact H
      clear H
      have H:=H1
      clear H1
      simp only [Option.some.injEq,Prod.mk.injEq] at H
      obtain ⟨rfl,rfl,rfl,rfl,rfl⟩:=H
      obtain ⟨Ao36,co36,eo36⟩:=Kd.R_slice HO_12.out
      subst eo36
      go_wp2_with (first|((with_reducible refine gate_callee (f:=64) rfl ?_);refine goesL_ (some 56) rfl rfl Tryd.func64 (by kernel_rfl) rfl #[.slice Ao36 x12_1.length co36] rfl (by (try simp only [List.map_toArray,List.map_cons,List.map_nil]);first|done|rfl|(simp only [List.length_drop,List.length_take];rfl)) ?_;(with_reducible refine (impl_PathClean.calls k1 _ _ x12_1 t194 _ ?side1 ?side2 A24.out).mono ?_);(case side1=>repeat (first|exact (Kd.R_reads' HO_12.out).2.2|(with_reducible refine Kd.C_alloc ?_ _)|(with_reducible refine Kd.C_drewN ?_ _)|(with_reducible refine Kd.C_drew ?_)));(case side2=>exact (Kd.R_reads' HO_12.out).2.1);rintro e w37 ⟨v195,rfl,ho0,hb⟩;refine ⟨_,rfl,?_⟩;have n0_:=Aside0.mk (Kd.R_elder' (by (with_reducible repeat (first|apply Kd.R_alloc|apply Kd.R_drewN|apply Kd.R_drew));exact HO_12.out) (Kd.R_base ho0) hb);have n1_:=Aside0.mk (Kd.R_elder' (by (with_reducible repeat (first|apply Kd.R_alloc|apply Kd.R_drewN|apply Kd.R_drew));exact HO_35.out) (Kd.R_base ho0) hb);have n2_:=Aside0.mk (Kd.R_lower (Kd.R_new' (Kd.R_new' ho0 (Kd.R_lt (by (with_reducible repeat (first|apply Kd.R_alloc|apply Kd.R_drewN|apply Kd.R_drew));exact HO_12.out))) (Kd.R_lt (by (with_reducible repeat (first|apply Kd.R_alloc|apply Kd.R_drewN|apply Kd.R_drew));exact HO_35.out))) (below_size (by repeat (first|(with_reducible first|exact HB.out|apply below_alloc|apply pw_below_drewN|apply below_drew1|refine below_set ?_ GE176.out)|exact HB.out))));have n3_:=Aside0.mk (blk_below (g:=gb176) (o:=.cells #[.string x177000_1,.slice none 0 0,.bool x177002_1,.string x177003_1] 24 (0,0)) (by (with_reducible repeat (first|refine blk_drewN ?_ _|refine blk_drew ?_|refine blk_alloc ?_ _));exact BK176.out) hb);have n4_:=Aside0.mk (below_step (by repeat (first|(with_reducible first|exact HB.out|apply below_alloc|apply pw_below_drewN|apply below_drew1|refine below_set ?_ GE176.out)|exact HB.out)) hb);clear HO_12;clear HO_35;clear BK176;clear HB;have HO_12:=n0_;have HO_35:=n1_;have HO196:=n2_;have BK176:=n3_;have HB:=n4_;clear n0_ n1_ n2_ n3_ n4_;(try clear hb);(try clear hb2);(try clear hk);(try clear hi);(try clear ho0);obtain ⟨Ao38,co38,eo38⟩:=Kd.R_slice HO196.out;subst eo38)|((with_reducible refine gate_dst (N:=17) rfl ?_);refine box_event ?hg (N:=17) ?hd (cs:=#[.string (⟨#[]⟩:ByteArray),.slice none 0 0,.bool false,.string (⟨#[]⟩:ByteArray)]) (t:=24) ?hr ?_;(case hd=>rfl);(case hg=>rfl);(case hr=>first|(go_simp;done)|(go_simp;rfl));intro gb197 hg w39 hbox hb;have n0_:=Aside0.mk (Kd.R_below (by (with_reducible repeat (first|apply Kd.R_alloc|apply Kd.R_drewN|apply Kd.R_drew));exact HO_12.out) hb);have n1_:=Aside0.mk (Kd.R_below (by (with_reducible repeat (first|apply Kd.R_alloc|apply Kd.R_drewN|apply Kd.R_drew));exact HO_35.out) hb);have n2_:=Aside0.mk (Kd.R_below (by (with_reducible repeat (first|apply Kd.R_alloc|apply Kd.R_drewN|apply Kd.R_drew));exact HO196.out) hb);have n3_:=Aside0.mk (blk_below (g:=gb176) (o:=.cells #[.string x177000_1,.slice none 0 0,.bool x177002_1,.string x177003_1] 24 (0,0)) (by (with_reducible repeat (first|refine blk_drewN ?_ _|refine blk_drew ?_|refine blk_alloc ?_ _));exact BK176.out) hb);have n4_:=Aside0.mk (below_step (by repeat (first|(with_reducible first|exact HB.out|apply below_alloc|apply pw_below_drewN|apply below_drew1|refine below_set ?_ GE176.out)|exact HB.out)) hb);have n5_:=Aside0.mk (hbox);have n6_:=Aside0.mk ((by rw [hg];exact (below_size (by repeat (first|(with_reducible first|exact HB.out|apply below_alloc|apply pw_below_drewN|apply below_drew1|refine below_set ?_ GE176.out)|exact HB.out))):w.heap.size ≤ gb197));have n7_:=n6_;have n8_:=Aside0.mk ((by rw [hg];exact Nat.ne_of_lt (blk_lt (g:=gb176) (o:=.cells #[.string x177000_1,.slice none 0 0,.bool x177002_1,.string x177003_1] 24 (0,0)) (by (with_reducible repeat (first|refine blk_drewN ?_ _|refine blk_drew ?_|refine blk_alloc ?_ _));exact BK176.out)):gb176 ≠ gb197));have n9_:=Aside0.mk ((by rw [hg];exact Nat.ne_of_gt (blk_lt (g:=gb176) (o:=.cells #[.string x177000_1,.slice none 0 0,.bool x177002_1,.string x177003_1] 24 (0,0)) (by (with_reducible repeat (first|refine blk_drewN ?_ _|refine blk_drew ?_|refine blk_alloc ?_ _));exact BK176.out)):gb197 ≠ gb176));clear HO_12;clear HO_35;clear HO196;clear BK176;clear HB;have HO_12:=n0_;have HO_35:=n1_;have HO196:=n2_;have BK176:=n3_;have HB:=n4_;have BK197:=n5_;have GW197:=n6_;have GE197:=n7_;have NB176_197:=n8_;have NB197_176:=n9_;clear n0_ n1_ n2_ n3_ n4_ n5_ n6_ n7_ n8_ n9_;clear hb hbox hg;have hnb40:=NB197_176.out;have hnc40:=NB176_197.out;have hcz41_0:w39.cell? ⟨gb197,0,none⟩ = some (.string (⟨#[]⟩:ByteArray)):=(blk_cell BK197.out 0).trans rfl;have hcz41_1:w39.cell? ⟨gb197,1,none⟩ = some (.slice none 0 0):=(blk_cell BK197.out 1).trans rfl;have hcz41_2:w39.cell? ⟨gb197,2,none⟩ = some (.bool false):=(blk_cell BK197.out 2).trans rfl;have hcz41_3:w39.cell? ⟨gb197,3,none⟩ = some (.string (⟨#[]⟩:ByteArray)):=(blk_cell BK197.out 3).trans rfl;have hfz41_0:=blk_frozen BK197.out 0;have hfz41_1:=blk_frozen BK197.out 1;have hfz41_2:=blk_frozen BK197.out 2;have hfz41_3:=blk_frozen BK197.out 3)|((with_reducible refine gate_callee (f:=18) rfl ?_);refine goesL_ (some 61) rfl rfl Tryd.func18 (by kernel_rfl) rfl #[.agg #[.string a0,.slice Ao38 t194.length co38,.bool t179,.string t180]] rfl (by (try simp only [List.map_toArray,List.map_cons,List.map_nil]);first|done|rfl|(simp only [List.length_drop,List.length_take];rfl)) ?_;(with_reducible refine (impl_AddrOk.calls k1 a0 _ _ t194 t179 t180 false _ ?side1 ?side2 A25.out).mono ?_);(case side1=>refine (Kd.R_reads' (e:=9) (base:=w.heap.size) (ok:=fun k_=>((True ∧ some k_ ≠ (.slice Ao36 x12_1.length co36:Value).ownBlock) ∧ some k_ ≠ (.slice Ao13 t185.length co13:Value).ownBlock)) (n:=t194.length) (c:=co38) ?_).2.2;exact (by (with_reducible repeat (first|apply Kd.R_alloc|apply Kd.R_drewN|apply Kd.R_drew));exact (Kd.R_mono (Kd.R_far (p:=⟨gb197,3,none⟩) (Kd.R_far (p:=⟨gb197,2,none⟩) (Kd.R_far (p:=⟨gb197,1,none⟩) (Kd.R_far (p:=⟨gb197,0,none⟩) (Kd.R_types HO196.out BK197.out (by decide)) (fun _ hk=>hk.2) (.string a0)) (fun _ hk=>hk.2) (.slice Ao38 t194.length co38)) (fun _ hk=>hk.2) (.bool t179)) (fun _ hk=>hk.2) (.string t180)) (fun _ h_=>h_.1))));(case side2=>exact (Kd.R_reads' HO196.out).2.1);rintro e w42 ⟨rfl,hb⟩;refine ⟨_,rfl,?_⟩;have n0_:=Aside0.mk (Kd.R_below (by (with_reducible repeat (first|apply Kd.R_alloc|apply Kd.R_drewN|apply Kd.R_drew));exact (Kd.R_mono (Kd.R_far (p:=⟨gb197,3,none⟩) (Kd.R_far (p:=⟨gb197,2,none⟩) (Kd.R_far (p:=⟨gb197,1,none⟩) (Kd.R_far (p:=⟨gb197,0,none⟩) (Kd.R_types HO_12.out BK197.out (by decide)) (fun _ hk=>hk.2) (.string a0)) (fun _ hk=>hk.2) (.slice Ao38 t194.length co38)) (fun _ hk=>hk.2) (.bool t179)) (fun _ hk=>hk.2) (.string t180)) (fun _ h_=>h_.1))) hb);have n1_:=Aside0.mk (Kd.R_below (by (with_reducible repeat (first|apply Kd.R_alloc|apply Kd.R_drewN|apply Kd.R_drew));exact (Kd.R_mono (Kd.R_far (p:=⟨gb197,3,none⟩) (Kd.R_far (p:=⟨gb197,2,none⟩) (Kd.R_far (p:=⟨gb197,1,none⟩) (Kd.R_far (p:=⟨gb197,0,none⟩) (Kd.R_types HO_35.out BK197.out (by decide)) (fun _ hk=>hk.2) (.string a0)) (fun _ hk=>hk.2) (.slice Ao38 t194.length co38)) (fun _ hk=>hk.2) (.bool t179)) (fun _ hk=>hk.2) (.string t180)) (fun _ h_=>h_.1))) hb);have n2_:=Aside0.mk (Kd.R_below (by (with_reducible repeat (first|apply Kd.R_alloc|apply Kd.R_drewN|apply Kd.R_drew));exact (Kd.R_mono (Kd.R_far (p:=⟨gb197,3,none⟩) (Kd.R_far (p:=⟨gb197,2,none⟩) (Kd.R_far (p:=⟨gb197,1,none⟩) (Kd.R_far (p:=⟨gb197,0,none⟩) (Kd.R_types HO196.out BK197.out (by decide)) (fun _ hk=>hk.2) (.string a0)) (fun _ hk=>hk.2) (.slice Ao38 t194.length co38)) (fun _ hk=>hk.2) (.bool t179)) (fun _ hk=>hk.2) (.string t180)) (fun _ h_=>h_.1))) hb);have n3_:=Aside0.mk (blk_below (g:=gb176) (o:=.cells #[.string x177000_1,.slice none 0 0,.bool x177002_1,.string x177003_1] 24 (0,0)) (by (with_reducible repeat (first|refine blk_drewN ?_ _|refine blk_drew ?_|refine blk_alloc ?_ _));refine blk_far ?_ NB176_197.out _;(with_reducible repeat (first|refine blk_drewN ?_ _|refine blk_drew ?_|refine blk_alloc ?_ _));refine blk_far ?_ NB176_197.out _;(with_reducible repeat (first|refine blk_drewN ?_ _|refine blk_drew ?_|refine blk_alloc ?_ _));refine blk_far ?_ NB176_197.out _;(with_reducible repeat (first|refine blk_drewN ?_ _|refine blk_drew ?_|refine blk_alloc ?_ _));refine blk_far ?_ NB176_197.out _;(with_reducible repeat (first|refine blk_drewN ?_ _|refine blk_drew ?_|refine blk_alloc ?_ _));exact BK176.out) hb);have n4_:=Aside0.mk (blk_below (g:=gb197) (o:=.cells #[.string a0,.slice Ao38 t194.length co38,.bool t179,.string t180] 24 (0,0)) (by (with_reducible repeat (first|refine blk_drewN ?_ _|refine blk_drew ?_|refine blk_alloc ?_ _));refine blk_put (cs:=#[.string a0,.slice Ao38 t194.length co38,.bool t179,.string (⟨#[]⟩:ByteArray)]) ?_ 3 _ rfl;(with_reducible repeat (first|refine blk_drewN ?_ _|refine blk_drew ?_|refine blk_alloc ?_ _));refine blk_put (cs:=#[.string a0,.slice Ao38 t194.length co38,.bool false,.string (⟨#[]⟩:ByteArray)]) ?_ 2 _ rfl;(with_reducible repeat (first|refine blk_drewN ?_ _|refine blk_drew ?_|refine blk_alloc ?_ _));refine blk_put (cs:=#[.string a0,.slice none 0 0,.bool false,.string (⟨#[]⟩:ByteArray)]) ?_ 1 _ rfl;(with_reducible repeat (first|refine blk_drewN ?_ _|refine blk_drew ?_|refine blk_alloc ?_ _));refine blk_put (cs:=#[.string (⟨#[]⟩:ByteArray),.slice none 0 0,.bool false,.string (⟨#[]⟩:ByteArray)]) ?_ 0 _ rfl;(with_reducible repeat (first|refine blk_drewN ?_ _|refine blk_drew ?_|refine blk_alloc ?_ _));exact BK197.out) hb);have n5_:=Aside0.mk (below_step (by repeat (first|(with_reducible first|exact HB.out|apply below_alloc|apply pw_below_drewN|apply below_drew1|refine below_set ?_ GE176.out|refine below_set ?_ GE197.out)|exact HB.out)) hb);clear HO_12;clear HO_35;clear HO196;clear BK176;clear BK197;clear HB;have HO_12:=n0_;have HO_35:=n1_;have HO196:=n2_;have BK176:=n3_;have BK197:=n4_;have HB:=n5_;clear n0_ n1_ n2_ n3_ n4_ n5_;(try clear hb);(try clear hb2);(try clear hk);(try clear hi);have hcz43_0:w42.cell? ⟨gb176,0,none⟩ = some (.string x177000_1):=(blk_cell BK176.out 0).trans rfl;have hcz43_1:w42.cell? ⟨gb176,1,none⟩ = some (.slice none 0 0):=(blk_cell BK176.out 1).trans rfl;have hcz43_2:w42.cell? ⟨gb176,2,none⟩ = some (.bool x177002_1):=(blk_cell BK176.out 2).trans rfl;have hcz43_3:w42.cell? ⟨gb176,3,none⟩ = some (.string x177003_1):=(blk_cell BK176.out 3).trans rfl;have hfz43_0:=blk_frozen BK176.out 0;have hfz43_1:=blk_frozen BK176.out 1;have hfz43_2:=blk_frozen BK176.out 2;have hfz43_3:=blk_frozen BK176.out 3))
      refine bodyPost_ret (results_ct rfl _ _ gb176 24 #[.string (⟨#[]⟩:ByteArray),.slice none 0 0,.bool false,.string (⟨#[]⟩:ByteArray)] (0,0) _ rfl (by (with_reducible repeat (first|refine blk_drewN ?_ _|refine blk_drew ?_|refine blk_alloc ?_ _));refine blk_put (cs:=#[.string (⟨#[]⟩:ByteArray),.slice none 0 0,.bool false,.string x177003_1]) ?_ 3 _ rfl;(with_reducible repeat (first|refine blk_drewN ?_ _|refine blk_drew ?_|refine blk_alloc ?_ _));refine blk_put (cs:=#[.string (⟨#[]⟩:ByteArray),.slice none 0 0,.bool x177002_1,.string x177003_1]) ?_ 2 _ rfl;(with_reducible repeat (first|refine blk_drewN ?_ _|refine blk_drew ?_|refine blk_alloc ?_ _));refine blk_put (cs:=#[.string (⟨#[]⟩:ByteArray),.slice none 0 0,.bool x177002_1,.string x177003_1]) ?_ 1 _ rfl;(with_reducible repeat (first|refine blk_drewN ?_ _|refine blk_drew ?_|refine blk_alloc ?_ _));refine blk_put (cs:=#[.string x177000_1,.slice none 0 0,.bool x177002_1,.string x177003_1]) ?_ 0 _ rfl;(with_reducible repeat (first|refine blk_drewN ?_ _|refine blk_drew ?_|refine blk_alloc ?_ _));exact BK176.out) Tryd.underlying24 rfl (by kernel_rfl)) rfl ?_
      exact ⟨_,by first|rfl|(simp <;> rfl)|(simp [*] <;> rfl),by first|exact Kd.R_nil _ _ _ _ _|exact Kd.N_nil _ _ _ _ _|exact Kd.V_nil _ _ _ _ _|exact Kd.Q_nil _ _ _ _ _|exact Kd.S_nil _ _ _ _ _,by repeat (first|(with_reducible first|exact HB.out|apply below_alloc|apply pw_below_drewN|apply below_drew1|refine below_set ?_ GE176.out|refine below_set ?_ GE197.out)|exact HB.out)⟩
 ·replace c6:=Bool.eq_false_iff.mpr c6
  subst c6
  have H1:(some ((⟨#[]⟩:ByteArray),([]:List ByteArray),false,(⟨#[]⟩:ByteArray),false)) = some (r1,r2,r3,r4,r5):=by rw [if_neg (show ¬ (false = true) by decide)] at H;exact H
  clear H
  have H:=H1
  clear H1
  simp only [Option.some.injEq,Prod.mk.injEq] at H
  obtain ⟨rfl,rfl,rfl,rfl,rfl⟩:=H
  go_enter Tryd.func43,Tryd.ntmps43
  go_wp2_with (first|((with_reducible refine gate_dst (N:=6) rfl ?_);refine box_event ?hg (N:=6) ?hd (cs:=#[.string (⟨#[]⟩:ByteArray),.slice none 0 0,.bool false,.string (⟨#[]⟩:ByteArray)]) (t:=24) ?hr ?_;(case hd=>rfl);(case hg=>rfl);(case hr=>first|(go_simp;done)|(go_simp;rfl));intro gb176 hg w44 hbox hb;have n0_:=Aside0.mk (below_step (by repeat (first|(with_reducible first|exact HB.out|apply below_alloc|apply pw_below_drewN|apply below_drew1)|exact HB.out)) hb);have n1_:=Aside0.mk (hbox);have n2_:=Aside0.mk ((by rw [hg];exact (below_size (by repeat (first|(with_reducible first|exact HB.out|apply below_alloc|apply pw_below_drewN|apply below_drew1)|exact HB.out))):w.heap.size ≤ gb176));have n3_:=n2_;clear HB;have HB:=n0_;have BK176:=n1_;have GW176:=n2_;have GE176:=n3_;clear n0_ n1_ n2_ n3_;clear hb hbox hg)|((with_reducible refine gate_callee (f:=21) rfl ?_);refine goesL_ (some 20) rfl rfl Tryd.func21 (by kernel_rfl) rfl #[.string a2,.string (⟨#[63]⟩:ByteArray)] rfl (by (try simp only [List.map_toArray,List.map_cons,List.map_nil]);first|done|rfl|(simp only [List.length_drop,List.length_take];rfl)) ?_;(with_reducible refine (strings_Cut.calls a2 (⟨#[63]⟩:ByteArray) t177 t178 t179 _ A4.out).mono ?_);rintro e w' ⟨rfl,⟨nd,rfl⟩⟩;refine ⟨_,rfl,?_⟩;(try (rw [drewN_self w44];generalize hq_:World.drewN w44 _ = w44;have n0_:Aside0 (w44.heap[gb176]? = some (.cells #[.string (⟨#[]⟩:ByteArray),.slice none 0 0,.bool false,.string (⟨#[]⟩:ByteArray)] 24 (0,0))):=⟨by rw [← hq_];exact (by (with_reducible repeat (first|refine blk_drewN ?_ _|refine blk_drew ?_|refine blk_alloc ?_ _));exact BK176.out)⟩;have n1_:Aside0 (Below w.heap.size w w44):=⟨by rw [← hq_];exact (by repeat (first|(with_reducible first|exact HB.out|apply below_alloc|apply pw_below_drewN|apply below_drew1|refine below_set ?_ GE176.out)|exact HB.out))⟩;clear BK176 HB hq_;have BK176:=n0_;have HB:=n1_;clear n0_ n1_)))|((with_reducible refine gate_callee (f:=52) rfl ?_);refine goesL_ (some 26) rfl rfl Tryd.func52 (by kernel_rfl) rfl #[.string t178] rfl (by (try simp only [List.map_toArray,List.map_cons,List.map_nil]);first|done|rfl|(simp only [List.length_drop,List.length_take];rfl)) ?_;(with_reducible refine (impl_EscNorm.calls k t178 t180 false _ A5.out).mono ?_);rintro e w45 ⟨rfl,hb⟩;refine ⟨_,rfl,?_⟩;have n0_:=Aside0.mk (blk_below (g:=gb176) (o:=.cells #[.string (⟨#[]⟩:ByteArray),.slice none 0 0,.bool false,.string (⟨#[]⟩:ByteArray)] 24 (0,0)) (by (with_reducible repeat (first|refine blk_drewN ?_ _|refine blk_drew ?_|refine blk_alloc ?_ _));exact BK176.out) hb);have n1_:=Aside0.mk (below_step (by repeat (first|(with_reducible first|exact HB.out|apply below_alloc|apply pw_below_drewN|apply below_drew1|refine below_set ?_ GE176.out)|exact HB.out)) hb);clear BK176;clear HB;have BK176:=n0_;have HB:=n1_;clear n0_ n1_;(try clear hb);(try clear hb2);(try clear hk);(try clear hi);have hcz46_0:w45.cell? ⟨gb176,0,none⟩ = some (.string (⟨#[]⟩:ByteArray)):=(blk_cell BK176.out 0).trans rfl;have hcz46_1:w45.cell? ⟨gb176,1,none⟩ = some (.slice none 0 0):=(blk_cell BK176.out 1).trans rfl;have hcz46_2:w45.cell? ⟨gb176,2,none⟩ = some (.bool false):=(blk_cell BK176.out 2).trans rfl;have hcz46_3:w45.cell? ⟨gb176,3,none⟩ = some (.string (⟨#[]⟩:ByteArray)):=(blk_cell BK176.out 3).trans rfl;have hfz46_0:=blk_frozen BK176.out 0;have hfz46_1:=blk_frozen BK176.out 1;have hfz46_2:=blk_frozen BK176.out 2;have hfz46_3:=blk_frozen BK176.out 3))
  refine bodyPost_ret (results_ct rfl _ _ gb176 24 #[.string (⟨#[]⟩:ByteArray),.slice none 0 0,.bool false,.string (⟨#[]⟩:ByteArray)] (0,0) _ rfl (by (with_reducible repeat (first|refine blk_drewN ?_ _|refine blk_drew ?_|refine blk_alloc ?_ _));refine blk_put (cs:=#[.string (⟨#[]⟩:ByteArray),.slice none 0 0,.bool false,.string (⟨#[]⟩:ByteArray)]) ?_ 3 _ rfl;(with_reducible repeat (first|refine blk_drewN ?_ _|refine blk_drew ?_|refine blk_alloc ?_ _));refine blk_put (cs:=#[.string (⟨#[]⟩:ByteArray),.slice none 0 0,.bool false,.string (⟨#[]⟩:ByteArray)]) ?_ 2 _ rfl;(with_reducible repeat (first|refine blk_drewN ?_ _|refine blk_drew ?_|refine blk_alloc ?_ _));refine blk_put (cs:=#[.string (⟨#[]⟩:ByteArray),.slice none 0 0,.bool false,.string (⟨#[]⟩:ByteArray)]) ?_ 1 _ rfl;(with_reducible repeat (first|refine blk_drewN ?_ _|refine blk_drew ?_|refine blk_alloc ?_ _));refine blk_put (cs:=#[.string (⟨#[]⟩:ByteArray),.slice none 0 0,.bool false,.string (⟨#[]⟩:ByteArray)]) ?_ 0 _ rfl;(with_reducible repeat (first|refine blk_drewN ?_ _|refine blk_drew ?_|refine blk_alloc ?_ _));exact BK176.out) Tryd.underlying24 rfl (by kernel_rfl)) rfl ?_
  exact ⟨_,by first|rfl|(simp <;> rfl)|(simp [*] <;> rfl),by first|exact Kd.R_nil _ _ _ _ _|exact Kd.N_nil _ _ _ _ _|exact Kd.V_nil _ _ _ _ _|exact Kd.Q_nil _ _ _ _ _|exact Kd.S_nil _ _ _ _ _,by repeat (first|(with_reducible first|exact HB.out|apply below_alloc|apply pw_below_drewN|apply below_drew1|refine below_set ?_ GE176.out)|exact HB.out)⟩

/-! ### impl_smallLetters: function 44 -/
/-- A letter, small. -/
def impl_smallLetters.lo (x:Int):Int:=if 65 ≤ x ∧ x ≤ 90 then x + 32 else x
def impl_smallLetters.f (a0:ByteArray):Option ByteArray:=if a0.size ≤ 1000000 then some (strOfNums ((bytesOf a0).map impl_smallLetters.lo)) else none
/-- The first k bytes are small ones. -/
def impl_smallLetters.upto (xs:List Int) (k:Nat):List Int:=(xs.take k).map impl_smallLetters.lo ++ xs.drop k
/-- The new row holds these bytes, in front. -/
def impl_smallLetters.Row (w wr:World) (e:Nat) (xs:List Int):Prop :=
 Below w.heap.size w wr ∧ ∃ C:Array Value,wr.heap[w.heap.size]? = some (.cells C e (C.size,C.size + 1)) ∧ xs.length ≤ C.size ∧ ∀ j,j < xs.length → C[j]? = some (.int .u8 (xs.getD j 0))
theorem impl_smallLetters.upto_length (xs:List Int) (k:Nat):(impl_smallLetters.upto xs k).length = xs.length:=by
 unfold impl_smallLetters.upto;simp;omega
theorem impl_smallLetters.upto_at (xs:List Int) (k:Nat) (h:k < xs.length):(impl_smallLetters.upto xs k).getD k 0 = xs.getD k 0:=by
 unfold impl_smallLetters.upto
 rw [List.getD_eq_getElem?_getD,List.getElem?_append_right (by simp;omega)]
 simp only [List.length_map,List.length_take,List.getElem?_drop,List.getD_eq_getElem?_getD]
 rw [show k + (k - min k xs.length) = k by omega]
theorem impl_smallLetters.upto_succ (xs:List Int) (k:Nat) (h:k < xs.length):impl_smallLetters.upto xs (k + 1) = (impl_smallLetters.upto xs k).set k (impl_smallLetters.lo (xs.getD k 0)):=by
 unfold impl_smallLetters.upto
 have hl:((xs.take k).map impl_smallLetters.lo).length = k:=by simp;omega
 rw [List.set_append_right k _ (by omega),hl,Nat.sub_self,List.drop_eq_getElem_cons h,List.set_cons_zero,List.take_succ_eq_append_getElem h,List.map_append,List.getD_eq_getElem?_getD,List.getElem?_eq_getElem h]
 simp
theorem impl_smallLetters.upto_same (xs:List Int) (k:Nat) (h:k < xs.length) (hn:¬ (65 ≤ xs.getD k 0 ∧ xs.getD k 0 ≤ 90)):impl_smallLetters.upto xs (k + 1) = impl_smallLetters.upto xs k:=by
 rw [impl_smallLetters.upto_succ xs k h]
 have:impl_smallLetters.lo (xs.getD k 0) = (impl_smallLetters.upto xs k).getD k 0:=by
  rw [impl_smallLetters.upto_at xs k h];unfold impl_smallLetters.lo;rw [if_neg hn]
 rw [this,List.getD_eq_getElem?_getD,List.getElem?_eq_getElem (by rw [impl_smallLetters.upto_length];exact h),Option.getD_some,List.set_getElem_self]
theorem impl_smallLetters.upto_all (xs:List Int):impl_smallLetters.upto xs xs.length = xs.map impl_smallLetters.lo:=by
 unfold impl_smallLetters.upto;simp
theorem impl_smallLetters.Row.new (w:World) (e:Nat) (s:ByteArray):impl_smallLetters.Row w (Lib.bytesWorld w e s) e (bytesOf s):=by
 refine ⟨⟨rfl,rfl,rfl,by rw [Lib.bytesWorld_size];omega,fun k hk=>Lib.bytesWorld_at_old w e s k hk⟩,_,Lib.bytesWorld_at_new w e s,?_,fun j hj=>?_⟩
 ·rw [bytesOf_length];simp [Lib.bytesCells]
 ·rw [bytesOf_length] at hj
  have h:=Lib.bytesWorld_cell w e s j hj
  simp only [World.cell?,Lib.bytesWorld_at_new] at h
  rw [show (bytesOf s).getD j 0 = ((s.data.toList.getD j 0).toNat:Int) by
   unfold bytesOf
   rw [List.getD_eq_getElem?_getD,List.getD_eq_getElem?_getD,List.getElem?_map]
   have:j < s.data.toList.length:=by rw [data_length];exact hj
   rw [List.getElem?_eq_getElem this];rfl]
  simpa using h
theorem impl_smallLetters.Row.cell {w wr:World} {e:Nat} {xs:List Int} (h:impl_smallLetters.Row w wr e xs) {j:Nat} (hj:j < xs.length):wr.cell? ⟨w.heap.size,j,none⟩ = some (.int .u8 (xs.getD j 0)):=by
 obtain ⟨_,C,hC,hl,hx⟩:=h
 simp only [World.cell?,hC]
 simpa using hx j hj
theorem impl_smallLetters.Row.free {w wr:World} {e:Nat} {xs:List Int} (h:impl_smallLetters.Row w wr e xs) {j:Nat} (hj:j < xs.length):wr.frozen? ⟨w.heap.size,j,none⟩ = false:=by
 obtain ⟨_,C,hC,hl,hx⟩:=h
 simp only [World.frozen?,hC]
 simp;omega
theorem impl_smallLetters.Row.set {w wr:World} {e:Nat} {xs:List Int} (h:impl_smallLetters.Row w wr e xs) (j:Nat) (x:Int):impl_smallLetters.Row w (wr.setCell ⟨w.heap.size,j,none⟩ (.int .u8 x)) e (xs.set j x):=by
 obtain ⟨hb,C,hC,hl,hx⟩:=h
 refine ⟨below_set hb (Nat.le_refl _),C.setIfInBounds j (.int .u8 x),?_,by simpa using hl,fun i hi=>?_⟩
 ·simp [World.setCell,Array.getElem?_modify,hC]
 ·rw [List.length_set] at hi
  by_cases hij:i = j
  ·subst hij
   rw [Array.getElem?_setIfInBounds_self_of_lt (by omega),List.getD_eq_getElem?_getD,List.getElem?_set_self hi];rfl
  ·rw [Array.getElem?_setIfInBounds_ne (Ne.symm hij),hx i hi,List.getD_eq_getElem?_getD,List.getD_eq_getElem?_getD,List.getElem?_set_ne (Ne.symm hij)]
theorem impl_smallLetters.Row.reads {w wr:World} {e:Nat} {xs:List Int} (h:impl_smallLetters.Row w wr e xs) (hm:xs.length ≤ 1000000):ReadsInt wr .u8 (some ⟨w.heap.size,0,none⟩) xs.length xs:=by
 refine ⟨rfl,by omega,fun _=>⟨_,rfl,fun j hj=>?_⟩⟩
 rw [add_plain];exact h.cell hj
theorem impl_smallLetters.byte_bd (s:ByteArray) (k:Nat):0 ≤ (bytesOf s).getD k 0 ∧ (bytesOf s).getD k 0 ≤ 255:=by
 have:=bt_range s k
 rw [← rd_bytesOf] at this
 simpa [rd] using this
theorem impl_smallLetters.calls (a0:ByteArray) (r:ByteArray) (w:World) (h:impl_smallLetters.f a0 = some r) :
  Calls Tryd.prog 44 #[.string a0] w fun e w'=>e = .returned (.string r) ∧ Below w.heap.size w w':=by
 have hs:a0.size ≤ 1000000:=by
  unfold impl_smallLetters.f at h
  split at h
  ·assumption
  ·cases h
 have HR:=Aside0.mk (show strOfNums ((bytesOf a0).map impl_smallLetters.lo) = r by
  unfold impl_smallLetters.f at h
  rw [if_pos hs] at h
  exact Option.some.inj h)
 clear h
 obtain ⟨W0,cap,hcv,HW⟩:∃ W0 cap,(convert 9 30 (.string a0)).run Tryd.prog w = .ok (.slice (some ⟨w.heap.size,0,none⟩) a0.size cap) W0 ∧ Aside0 (impl_smallLetters.Row w W0 5 (impl_smallLetters.upto (bytesOf a0) 0)):=by
  refine ⟨_,_,Lib.run_convert_string_bytes w 9 30 5 a0 Tryd.underlying9 Tryd.underlying30 Tryd.underlying5,⟨?_⟩⟩
  have:=impl_smallLetters.Row.new w 5 a0
  simpa [impl_smallLetters.upto] using this
 go_enter Tryd.func44,Tryd.ntmps44
 go_wp2
 go_loopw [10] (fun v wr=>∃ k:Nat,k ≤ a0.size ∧ v = .int .i64 k ∧ Aside0 (impl_smallLetters.Row w wr 5 (impl_smallLetters.upto (bytesOf a0) k))) (fun v _=>a0.size - (intOf v).toNat)
 case atStart=>exact ⟨0,Nat.zero_le _,rfl,HW⟩
 case round =>
  clear hcv HW
  obtain ⟨k,hk,rfl,HK⟩:=hrel
  by_cases hlt:k < a0.size
  ·have HL:=Aside0.mk (bytesOf_length a0)
   have hbd:=impl_smallLetters.byte_bd a0 k
   have hc:=HK.out.cell (j:=k) (by rw [impl_smallLetters.upto_length,HL.out];exact hlt)
   rw [impl_smallLetters.upto_at _ k (by rw [HL.out];exact hlt)] at hc
   have hf:=HK.out.free (j:=k) (by rw [impl_smallLetters.upto_length,HL.out];exact hlt)
   generalize hx:(bytesOf a0).getD k 0 = x at hc hbd
   have HX:=Aside0.mk hx
   clear hx
   by_cases h1:65 ≤ x
   ·by_cases h2:x ≤ 90
    ·have HN:=Aside0.mk (HK.out.set k (x + 32))
     go_wp2
     go_roundw
     case rel=>exact ⟨k + 1,by omega,by go_num,⟨by
      rw [impl_smallLetters.upto_succ _ k (by rw [HL.out];exact hlt),HX.out,show impl_smallLetters.lo x = x + 32 by unfold impl_smallLetters.lo;rw [if_pos ⟨h1,h2⟩]]
      exact HN.out⟩⟩
     case measure=>simp [intOf];omega
    ·go_wp2
     go_roundw
     case rel=>exact ⟨k + 1,by omega,by go_num,⟨by
      rw [impl_smallLetters.upto_same _ k (by rw [HL.out];exact hlt) (by rw [HX.out];omega)]
      exact HK.out⟩⟩
     case measure=>simp [intOf];omega
   ·go_wp2
    go_roundw
    case rel=>exact ⟨k + 1,by omega,by go_num,⟨by
     rw [impl_smallLetters.upto_same _ k (by rw [HL.out];exact hlt) (by rw [HX.out];omega)]
     exact HK.out⟩⟩
    case measure=>simp [intOf];omega
  ·obtain rfl:k = a0.size:=by omega
   have HL:=Aside0.mk (bytesOf_length a0)
   have hcb:(convert 30 9 (.slice (some ⟨w.heap.size,0,none⟩) a0.size cap)).run Tryd.prog wr = .ok (.string r) wr:=by
    have e:impl_smallLetters.upto (bytesOf a0) a0.size = (bytesOf a0).map impl_smallLetters.lo:=by
     rw [← HL.out];exact impl_smallLetters.upto_all _
    have h:=HK.out
    rw [e] at h
    have hl:((bytesOf a0).map impl_smallLetters.lo).length = a0.size:=by rw [List.length_map,HL.out]
    have hr:=h.reads (by omega)
    rw [hl] at hr
    rw [← HR.out]
    exact string_of_reads Tryd.underlying30 Tryd.underlying5 Tryd.underlying9 hr
   have HB:=Aside0.mk HK.out.1
   go_wp2
   go_ret
   exact ⟨rfl,HB.out⟩

/-! ### impl_readWhole: function 22 -/
def impl_readWhole.f (k:Nat) (a0:ByteArray):Option (ByteArray × List ByteArray × Bool × ByteArray × Bool):=(strings_CutPrefix.f a0 (⟨#[47,47]⟩:ByteArray)).bind fun bt200=>(if bt200.2 = true then ((strings_IndexAny.f bt200.1 (⟨#[47,63]⟩:ByteArray)).bind fun t202=>(if t202 < 0 then (if 0 ≤ (bt200.1.size:Int) then (if (bt200.1.size:Int) ≤ (bt200.1.size:Int) then ((impl_smallLetters.f (bt200.1.extract 0 ((bt200.1.size:Int):Int).toNat)).bind fun t203=>((impl_readWay.f k t203 ([]:List ByteArray) (bt200.1.extract ((bt200.1.size:Int):Int).toNat bt200.1.size)).bind fun bt204=>(some (bt204.1,bt204.2.1,bt204.2.2.1,bt204.2.2.2.1,bt204.2.2.2.2)))) else (none)) else (none)) else (if 0 ≤ t202 then (if t202 ≤ (bt200.1.size:Int) then ((impl_smallLetters.f (bt200.1.extract 0 (t202:Int).toNat)).bind fun t211=>((impl_readWay.f k t211 ([]:List ByteArray) (bt200.1.extract (t202:Int).toNat bt200.1.size)).bind fun bt212=>(some (bt212.1,bt212.2.1,bt212.2.2.1,bt212.2.2.2.1,bt212.2.2.2.2)))) else (none)) else (none)))) else (some ((⟨#[]⟩:ByteArray),([]:List ByteArray),false,(⟨#[]⟩:ByteArray),false)))
theorem impl_readWhole.mono:∀ a0 k,LeO (impl_readWhole.f k a0) (impl_readWhole.f (k + 1) a0):=by
 intro a0 k
 unfold impl_readWhole.f
 repeat' first
   | (with_reducible exact impl_readWay.mono _ _ _ _)
   | (with_reducible exact LeO.refl _)
   | (with_reducible exact LeO.none _)
   | (with_reducible refine LeO.ite ?_ ?_)
   | (with_reducible refine LeO.bind ?_ (fun _=>?_))
   | exact impl_readWay.mono _ _ _ _
   | exact LeO.none _
   | refine LeO.ite ?_ ?_
   | refine LeO.bind ?_ (fun _=>?_)
def impl_readWhole.T7:Bool × List (List Nat × List Nat):=(true,[([],[]),([],[]),([0,1],[0,1]),([2],[2]),([],[]),([],[]),([4,5],[4,5]),([3,6,3],[3,6]),([7],[7]),([7],[7]),([8,7,0,1,2,3,4,5,6,7,8,9],[8]),([9,10,0,1,2,3,4,5,6,7,8,9,10],[9])])
def impl_readWhole.B7:List Nat:=[0,0,3,7,0,0,48,127,255,255,1023,2047]
theorem impl_readWhole.tab7:rtab .any (opsOf Tryd.f22 7) = impl_readWhole.T7:=by kernel_rfl
theorem impl_readWhole.bits7:waitsOk impl_readWhole.T7.2 impl_readWhole.B7 = true:=by kernel_rfl
theorem impl_readWhole.calls (k:Nat) (a0:ByteArray) (r1:ByteArray) (r2:List ByteArray) (r3:Bool) (r4:ByteArray) (r5:Bool) (w:World) (h:impl_readWhole.f k a0 = some (r1,r2,r3,r4,r5)) :
  Calls Tryd.prog 22 #[.string a0] w fun e w'=>∃ v1_:Value,e = .returned (.tuple #[.agg #[.string r1,v1_,.bool r3,.string r4],.bool r5]) ∧ Kd.R Kd.string 9 w' w.heap.size (fun _=>True) v1_ r2 ∧ Below w.heap.size w w':=by
 have hu24:=Tryd.underlying24
 have HB:=Aside0.mk (Below.refl w.heap.size w)
 have H:((strings_CutPrefix.f a0 (⟨#[47,47]⟩:ByteArray)).bind fun bt200=>(if bt200.2 = true then ((strings_IndexAny.f bt200.1 (⟨#[47,63]⟩:ByteArray)).bind fun t202=>(if t202 < 0 then (if 0 ≤ (bt200.1.size:Int) then (if (bt200.1.size:Int) ≤ (bt200.1.size:Int) then ((impl_smallLetters.f (bt200.1.extract 0 ((bt200.1.size:Int):Int).toNat)).bind fun t203=>((impl_readWay.f k t203 ([]:List ByteArray) (bt200.1.extract ((bt200.1.size:Int):Int).toNat bt200.1.size)).bind fun bt204=>(some (bt204.1,bt204.2.1,bt204.2.2.1,bt204.2.2.2.1,bt204.2.2.2.2)))) else (none)) else (none)) else (if 0 ≤ t202 then (if t202 ≤ (bt200.1.size:Int) then ((impl_smallLetters.f (bt200.1.extract 0 (t202:Int).toNat)).bind fun t211=>((impl_readWay.f k t211 ([]:List ByteArray) (bt200.1.extract (t202:Int).toNat bt200.1.size)).bind fun bt212=>(some (bt212.1,bt212.2.1,bt212.2.2.1,bt212.2.2.2.1,bt212.2.2.2.2)))) else (none)) else (none)))) else (some ((⟨#[]⟩:ByteArray),([]:List ByteArray),false,(⟨#[]⟩:ByteArray),false)))) = some (r1,r2,r3,r4,r5):=h
 clear h
 replace H:=Option.bind_eq_some_iff.mp H
 obtain ⟨⟨t200,t201⟩,A20,H⟩:=H
 replace H:(if t201 = true then ((strings_IndexAny.f t200 (⟨#[47,63]⟩:ByteArray)).bind fun t202=>(if t202 < 0 then (if 0 ≤ (t200.size:Int) then (if (t200.size:Int) ≤ (t200.size:Int) then ((impl_smallLetters.f (t200.extract 0 ((t200.size:Int):Int).toNat)).bind fun t203=>((impl_readWay.f k t203 ([]:List ByteArray) (t200.extract ((t200.size:Int):Int).toNat t200.size)).bind fun bt204=>(some (bt204.1,bt204.2.1,bt204.2.2.1,bt204.2.2.2.1,bt204.2.2.2.2)))) else (none)) else (none)) else (if 0 ≤ t202 then (if t202 ≤ (t200.size:Int) then ((impl_smallLetters.f (t200.extract 0 (t202:Int).toNat)).bind fun t211=>((impl_readWay.f k t211 ([]:List ByteArray) (t200.extract (t202:Int).toNat t200.size)).bind fun bt212=>(some (bt212.1,bt212.2.1,bt212.2.2.1,bt212.2.2.2.1,bt212.2.2.2.2)))) else (none)) else (none)))) else (some ((⟨#[]⟩:ByteArray),([]:List ByteArray),false,(⟨#[]⟩:ByteArray),false))) = some (r1,r2,r3,r4,r5):=H
 have A2:=Aside0.mk A20
 clear A20
 by_cases c3:t201 = true
 ·subst c3
  have H1:((strings_IndexAny.f t200 (⟨#[47,63]⟩:ByteArray)).bind fun t202=>(if t202 < 0 then (if 0 ≤ (t200.size:Int) then (if (t200.size:Int) ≤ (t200.size:Int) then ((impl_smallLetters.f (t200.extract 0 ((t200.size:Int):Int).toNat)).bind fun t203=>((impl_readWay.f k t203 ([]:List ByteArray) (t200.extract ((t200.size:Int):Int).toNat t200.size)).bind fun bt204=>(some (bt204.1,bt204.2.1,bt204.2.2.1,bt204.2.2.2.1,bt204.2.2.2.2)))) else (none)) else (none)) else (if 0 ≤ t202 then (if t202 ≤ (t200.size:Int) then ((impl_smallLetters.f (t200.extract 0 (t202:Int).toNat)).bind fun t211=>((impl_readWay.f k t211 ([]:List ByteArray) (t200.extract (t202:Int).toNat t200.size)).bind fun bt212=>(some (bt212.1,bt212.2.1,bt212.2.2.1,bt212.2.2.2.1,bt212.2.2.2.2)))) else (none)) else (none)))) = some (r1,r2,r3,r4,r5):=by rw [if_pos rfl] at H;exact H
  clear H
  have H:=H1
  clear H1
  replace H:=Option.bind_eq_some_iff.mp H
  obtain ⟨t202,A40,H⟩:=H
  replace H:(if t202 < 0 then (if 0 ≤ (t200.size:Int) then (if (t200.size:Int) ≤ (t200.size:Int) then ((impl_smallLetters.f (t200.extract 0 ((t200.size:Int):Int).toNat)).bind fun t203=>((impl_readWay.f k t203 ([]:List ByteArray) (t200.extract ((t200.size:Int):Int).toNat t200.size)).bind fun bt204=>(some (bt204.1,bt204.2.1,bt204.2.2.1,bt204.2.2.2.1,bt204.2.2.2.2)))) else (none)) else (none)) else (if 0 ≤ t202 then (if t202 ≤ (t200.size:Int) then ((impl_smallLetters.f (t200.extract 0 (t202:Int).toNat)).bind fun t211=>((impl_readWay.f k t211 ([]:List ByteArray) (t200.extract (t202:Int).toNat t200.size)).bind fun bt212=>(some (bt212.1,bt212.2.1,bt212.2.2.1,bt212.2.2.2.1,bt212.2.2.2.2)))) else (none)) else (none))) = some (r1,r2,r3,r4,r5):=H
  have A4:=Aside0.mk A40
  clear A40
  by_cases c5:t202 < 0
  ·rw [if_pos c5] at H
   have c5b0:decide (t202 < 0) = true:=decide_eq_true c5
   clear c5
   by_cases c6:0 ≤ (t200.size:Int)
   ·rw [if_pos c6] at H
    have c6b0:=eq_true c6
    have c6b1:=decide_eq_true c6
    clear c6
    by_cases c7:(t200.size:Int) ≤ (t200.size:Int)
    ·rw [if_pos c7] at H
     have c7b0:=eq_true c7
     have c7b1:=decide_eq_true c7
     clear c7
     replace H:=Option.bind_eq_some_iff.mp H
     obtain ⟨t203,A80,H⟩:=H
     replace H:((impl_readWay.f k t203 ([]:List ByteArray) (t200.extract ((t200.size:Int):Int).toNat t200.size)).bind fun bt204=>(some (bt204.1,bt204.2.1,bt204.2.2.1,bt204.2.2.2.1,bt204.2.2.2.2))) = some (r1,r2,r3,r4,r5):=H
     have A8:=Aside0.mk A80
     clear A80
     have c9b0:=eq_true (of_decide_eq_true (by first|(with_reducible assumption)|assumption):0 ≤ (t200.size:Int))
     have c10b0:=eq_true (of_decide_eq_true (by first|(with_reducible assumption)|assumption):(t200.size:Int) ≤ (t200.size:Int))
     replace H:=Option.bind_eq_some_iff.mp H
     obtain ⟨⟨t204,t205,t208,t209,t210⟩,A110,H⟩:=H
     replace H:(some (t204,t205,t208,t209,t210)) = some (r1,r2,r3,r4,r5):=H
     have A11:=Aside0.mk A110
     clear A110
     simp only [Option.some.injEq,Prod.mk.injEq] at H
     obtain ⟨rfl,rfl,rfl,rfl,rfl⟩:=H
     go_enter Tryd.func22,Tryd.ntmps22
     try go_wp2_with (first|((with_reducible refine gate_dst (N:=2) rfl ?_);refine box_event ?hg (N:=2) ?hd (cs:=#[.string (⟨#[]⟩:ByteArray),.slice none 0 0,.bool false,.string (⟨#[]⟩:ByteArray)]) (t:=24) ?hr ?_;(case hd=>rfl);(case hg=>rfl);(case hr=>first|(go_simp;done)|(go_simp;rfl));intro gb199 hg w12 hbox hb;have n0_:=Aside0.mk (below_step (by repeat (first|(with_reducible first|exact HB.out|apply below_alloc|apply pw_below_drewN|apply below_drew1)|exact HB.out)) hb);have n1_:=Aside0.mk (hbox);have n2_:=Aside0.mk ((by rw [hg];exact (below_size (by repeat (first|(with_reducible first|exact HB.out|apply below_alloc|apply pw_below_drewN|apply below_drew1)|exact HB.out))):w.heap.size ≤ gb199));have n3_:=n2_;clear HB;have HB:=n0_;have BK199:=n1_;have GW199:=n2_;have GE199:=n3_;clear n0_ n1_ n2_ n3_;clear hb hbox hg)|((with_reducible refine gate_callee (f:=41) rfl ?_);refine goesL_ (some 9) rfl rfl Tryd.func41 (by kernel_rfl) rfl #[.string a0,.string (⟨#[47,47]⟩:ByteArray)] rfl (by (try simp only [List.map_toArray,List.map_cons,List.map_nil]);first|done|rfl|(simp only [List.length_drop,List.length_take];rfl)|(simp [Act.eval,Array.getD_eq_getD_getElem?];done)) ?_;(with_reducible refine (strings_CutPrefix.calls a0 (⟨#[47,47]⟩:ByteArray) t200 true _ A2.out).mono ?_);rintro e w' ⟨rfl,⟨nd,rfl⟩⟩;refine ⟨_,rfl,?_⟩;(try (rw [drewN_self w12];generalize hq_:World.drewN w12 _ = w12;have n0_:Aside0 (w12.heap[gb199]? = some (.cells #[.string (⟨#[]⟩:ByteArray),.slice none 0 0,.bool false,.string (⟨#[]⟩:ByteArray)] 24 (0,0))):=⟨by rw [← hq_];exact (by (with_reducible repeat (first|refine blk_drewN ?_ _|refine blk_drew ?_|refine blk_alloc ?_ _));exact BK199.out)⟩;have n1_:Aside0 (Below w.heap.size w w12):=⟨by rw [← hq_];exact (by repeat (first|(with_reducible first|exact HB.out|apply below_alloc|apply pw_below_drewN|apply below_drew1|refine below_set ?_ GE199.out)|exact HB.out))⟩;clear BK199 HB hq_;have BK199:=n0_;have HB:=n1_;clear n0_ n1_)))|((with_reducible refine gate_callee (f:=42) rfl ?_);refine goesL_ (some 16) rfl rfl Tryd.func42 (by kernel_rfl) rfl #[.string t200,.string (⟨#[47,63]⟩:ByteArray)] rfl (by (try simp only [List.map_toArray,List.map_cons,List.map_nil]);first|done|rfl|(simp only [List.length_drop,List.length_take];rfl)|(simp [Act.eval,Array.getD_eq_getD_getElem?];done)) ?_;(with_reducible refine (strings_IndexAny.calls t200 (⟨#[47,63]⟩:ByteArray) t202 _ A4.out).mono ?_);rintro e w13 ⟨rfl,hb⟩;refine ⟨_,rfl,?_⟩;have n0_:=Aside0.mk (blk_below (g:=gb199) (o:=.cells #[.string (⟨#[]⟩:ByteArray),.slice none 0 0,.bool false,.string (⟨#[]⟩:ByteArray)] 24 (0,0)) (by (with_reducible repeat (first|refine blk_drewN ?_ _|refine blk_drew ?_|refine blk_alloc ?_ _));exact BK199.out) hb);have n1_:=Aside0.mk (below_step (by repeat (first|(with_reducible first|exact HB.out|apply below_alloc|apply pw_below_drewN|apply below_drew1|refine below_set ?_ GE199.out)|exact HB.out)) hb);clear BK199;clear HB;have BK199:=n0_;have HB:=n1_;clear n0_ n1_;(try clear hb);(try clear hb2);(try clear hk);(try clear hi)))
     have n0_:=Aside0.mk (blk_drew BK199.out)
     have n1_:=Aside0.mk (below_drew1 HB.out)
     clear BK199
     clear HB
     have BK199:=n0_
     have HB:=n1_
     clear n0_ n1_
     refine start_ (n:=12) (S:=fun w'=>True) (ds:=[]) #[false,false,false,false,false,false,false,false,false,false,false,false] (by kernel_rfl) rfl rfl trivial (fun hHeld=>?_);refine with_tabW impl_readWhole.tab7 impl_readWhole.bits7 (fun HT_ HW_=>?_)
     generalize w13.drew = w14 at BK199 HB hHeld ⊢
     refine pure_ (i:=0) (N:=some 21) (v:=?_) (a':=?_) #[true,false,false,false,false,false,false,false,false,false,false,false] rfl rfl (any_of HT_.out (by kernel_rfl)) (fun _ _ _ h=>h) (Or.inl ⟨by rfl,?_⟩) ?_ ?_
     rotate_left
     ·intro w'
      go_simp
      with_reducible rfl
     rotate_left
     ·simp only [Act.put,List.setIfInBounds_toArray,List.set_cons_zero,List.set_cons_succ,i64_w,i32_w]
      rfl
     refine pure_ (i:=1) (N:=some 22) (v:=?_) (a':=?_) #[true,true,false,false,false,false,false,false,false,false,false,false] rfl rfl (any_of HT_.out (by kernel_rfl)) (fun _ _ _ h=>h) (Or.inl ⟨by rfl,?_⟩) ?_ ?_
     rotate_left
     ·intro w'
      go_simp
      with_reducible rfl
     rotate_left
     ·simp only [Act.put,List.setIfInBounds_toArray,List.set_cons_zero,List.set_cons_succ,i64_w,i32_w]
      rfl
     refine pure_ (i:=2) (N:=some 23) (v:=?_) (a':=?_) #[true,true,true,false,false,false,false,false,false,false,false,false] rfl rfl (any_of HT_.out (by kernel_rfl)) (fun _ _ _ h=>h) (Or.inl ⟨by rfl,?_⟩) ?_ ?_
     rotate_left
     ·intro w'
      go_simp
      with_reducible rfl
     rotate_left
     ·simp only [Act.put,List.setIfInBounds_toArray,List.set_cons_zero,List.set_cons_succ,i64_w,i32_w]
      rfl
     refine pure_ (i:=4) (N:=some 25) (v:=?_) (a':=?_) #[true,true,true,false,true,false,false,false,false,false,false,false] rfl rfl (any_of HT_.out (by kernel_rfl)) (fun _ _ _ h=>h) (Or.inl ⟨by rfl,?_⟩) ?_ ?_
     rotate_left
     ·intro w'
      go_simp
      with_reducible rfl
     rotate_left
     ·simp only [Act.put,List.setIfInBounds_toArray,List.set_cons_zero,List.set_cons_succ,i64_w,i32_w]
      rfl
     refine pure_ (i:=5) (N:=some 26) (v:=?_) (a':=?_) #[true,true,true,false,true,true,false,false,false,false,false,false] rfl rfl (any_of HT_.out (by kernel_rfl)) (fun _ _ _ h=>h) (Or.inl ⟨by rfl,?_⟩) ?_ ?_
     rotate_left
     ·intro w'
      go_simp
      with_reducible rfl
     rotate_left
     ·simp only [Act.put,List.setIfInBounds_toArray,List.set_cons_zero,List.set_cons_succ,i64_w,i32_w]
      rfl
     refine pure_ (i:=6) (N:=some 27) (v:=?_) (a':=?_) #[true,true,true,false,true,true,true,false,false,false,false,false] rfl rfl (any_of HT_.out (by kernel_rfl)) (fun _ _ _ h=>h) (Or.inl ⟨by rfl,?_⟩) ?_ ?_
     rotate_left
     ·intro w'
      go_simp
      with_reducible rfl
     rotate_left
     ·simp only [Act.put,List.setIfInBounds_toArray,List.set_cons_zero,List.set_cons_succ,i64_w,i32_w]
      rfl
     refine one_ (i:=3) (N:=some 24) #[true,true,true,true,true,true,true,false,false,false,false,false] rfl rfl (one_of HT_.out (by kernel_rfl)) (by decide) (fun K hK=>?_)
     refine goes_ Tryd.func44 (by kernel_rfl) rfl #[.string (t200.extract 0 ((t200.size:Int):Int).toNat)] (by rfl) rfl rfl (by (try simp only [List.map_toArray,List.map_cons,List.map_nil]);first|done|rfl|(simp only [List.length_drop,List.length_take];rfl)|(simp [Act.eval,Array.getD_eq_getD_getElem?];done)) ?_
     with_reducible refine (impl_smallLetters.calls (t200.extract 0 ((t200.size:Int):Int).toNat) t203 _ A8.out).mono ?_
     rintro e w15 ⟨rfl,hb⟩
     refine ⟨_,rfl,?_⟩
     have n0_:=Aside0.mk (blk_below (g:=gb199) (o:=.cells #[.string (⟨#[]⟩:ByteArray),.slice none 0 0,.bool false,.string (⟨#[]⟩:ByteArray)] 24 (0,0)) (by (with_reducible repeat (first|refine blk_drewN ?_ _|refine blk_drew ?_|refine blk_alloc ?_ _));exact BK199.out) hb)
     have n1_:=Aside0.mk (below_step (by repeat (first|(with_reducible first|exact HB.out|apply below_alloc|apply pw_below_drewN|apply below_drew1|refine below_set ?_ GE199.out)|exact HB.out)) hb)
     clear BK199
     clear HB
     have BK199:=n0_
     have HB:=n1_
     clear n0_ n1_
     (try clear hb)
     (try clear hb2)
     (try clear hk)
     (try clear hi)
     refine hK.out _ _ trivial (fun hHeld=>?_)
     clear hK K
     refine norm_ (a':=?_) ?_ ?_
     rotate_left
     ·show Act.put _ (some 24) _ = _
      simp only [Act.put,List.setIfInBounds_toArray,List.set_cons_zero,List.set_cons_succ,i64_w,i32_w]
      rfl
     refine one_ (i:=7) (N:=some 28) #[true,true,true,true,true,true,true,true,false,false,false,false] rfl rfl (one_of HT_.out (by kernel_rfl)) (by decide) (fun K hK=>?_)
     refine goes_ Tryd.func43 (by kernel_rfl) rfl #[.string t203,.slice none 0 0,.string (t200.extract ((t200.size:Int):Int).toNat t200.size)] (by rfl) rfl rfl (by (try simp only [List.map_toArray,List.map_cons,List.map_nil]);first|done|rfl|(simp only [List.length_drop,List.length_take];rfl)|(simp [Act.eval,Array.getD_eq_getD_getElem?];done)) ?_
     refine (impl_readWay.calls k t203 _ _ ([]:List ByteArray) (t200.extract ((t200.size:Int):Int).toNat t200.size) t204 t205 t208 t209 t210 _ ?side1 ?side2 A11.out).mono ?_
     (case side1=>exact Kd.C_nil _ _)
     (case side2=>exact Nat.le_refl _)
     rintro e w16 ⟨v206,rfl,ho0,hb⟩
     refine ⟨_,rfl,?_⟩
     have n0_:=Aside0.mk (Kd.R_lower ho0 (below_size (by repeat (first|(with_reducible first|exact HB.out|apply below_alloc|apply pw_below_drewN|apply below_drew1|refine below_set ?_ GE199.out)|exact HB.out))))
     have n1_:=Aside0.mk (blk_below (g:=gb199) (o:=.cells #[.string (⟨#[]⟩:ByteArray),.slice none 0 0,.bool false,.string (⟨#[]⟩:ByteArray)] 24 (0,0)) (by (with_reducible repeat (first|refine blk_drewN ?_ _|refine blk_drew ?_|refine blk_alloc ?_ _));exact BK199.out) hb)
     have n2_:=Aside0.mk (below_step (by repeat (first|(with_reducible first|exact HB.out|apply below_alloc|apply pw_below_drewN|apply below_drew1|refine below_set ?_ GE199.out)|exact HB.out)) hb)
     clear BK199
     clear HB
     have HO207:=n0_
     have BK199:=n1_
     have HB:=n2_
     clear n0_ n1_ n2_
     (try clear hb)
     (try clear hb2)
     (try clear hk)
     (try clear hi)
     (try clear ho0)
     obtain ⟨Ao18,co18,eo18⟩:=Kd.R_slice HO207.out
     (first|subst eo18|(injection eo18 with f1_ f2_ f3_;have f4_:=f1_.symm;have f5_:=f3_.symm;clear f1_ f2_ f3_;subst f4_;subst f5_))
     refine hK.out _ _ trivial (fun hHeld=>?_)
     clear hK K
     refine norm_ (a':=?_) ?_ ?_
     rotate_left
     ·show Act.put _ (some 28) _ = _
      simp only [Act.put,List.setIfInBounds_toArray,List.set_cons_zero,List.set_cons_succ,i64_w,i32_w]
      rfl
     refine pure_ (i:=8) (N:=some 29) (v:=?_) (a':=?_) #[true,true,true,true,true,true,true,true,true,false,false,false] rfl rfl (any_of HT_.out (by kernel_rfl)) (fun _ _ _ h=>h) (Or.inl ⟨by rfl,?_⟩) ?_ ?_
     rotate_left
     ·intro w'
      go_simp
      with_reducible rfl
     rotate_left
     ·simp only [Act.put,List.setIfInBounds_toArray,List.set_cons_zero,List.set_cons_succ,i64_w,i32_w]
      rfl
     refine pure_ (i:=9) (N:=some 30) (v:=?_) (a':=?_) #[true,true,true,true,true,true,true,true,true,true,false,false] rfl rfl (any_of HT_.out (by kernel_rfl)) (fun _ _ _ h=>h) (Or.inl ⟨by rfl,?_⟩) ?_ ?_
     rotate_left
     ·intro w'
      go_simp
      with_reducible rfl
     rotate_left
     ·simp only [Act.put,List.setIfInBounds_toArray,List.set_cons_zero,List.set_cons_succ,i64_w,i32_w]
      rfl
     refine one_ (i:=10) (N:=none) #[true,true,true,true,true,true,true,true,true,true,true,false] rfl rfl (one_of HT_.out (by kernel_rfl)) (by decide) (fun K hK=>?_)
     have hs17:w16.cell? ⟨gb199,0,none⟩ = some (.string (⟨#[]⟩:ByteArray)):=(blk_cell BK199.out 0).trans rfl
     have hfs17:=blk_frozen BK199.out 0
     have hs19:w16.cell? ⟨gb199,1,none⟩ = some (.slice none 0 0):=(blk_cell BK199.out 1).trans rfl
     have hfs19:=blk_frozen BK199.out 1
     have hs20:w16.cell? ⟨gb199,2,none⟩ = some (.bool false):=(blk_cell BK199.out 2).trans rfl
     have hfs20:=blk_frozen BK199.out 2
     have hs21:w16.cell? ⟨gb199,3,none⟩ = some (.string (⟨#[]⟩:ByteArray)):=(blk_cell BK199.out 3).trans rfl
     have hfs21:=blk_frozen BK199.out 3
     refine skip_ (w1:=?_) (by rfl) rfl ?_ ?_
     rotate_left
     ·go_simp
      rfl
     refine hK.out _ _ trivial (fun hHeld=>?_)
     clear hK K
     refine pure_ (i:=11) (N:=some 3) (v:=?_) (a':=?_) #[true,true,true,true,true,true,true,true,true,true,true,true] rfl rfl (any_of HT_.out (by kernel_rfl)) (fun _ _ _ h=>h) (Or.inl ⟨by rfl,?_⟩) ?_ ?_
     rotate_left
     ·intro w'
      go_simp
      with_reducible rfl
     rotate_left
     ·simp only [Act.put,List.setIfInBounds_toArray,List.set_cons_zero,List.set_cons_succ,i64_w,i32_w]
      rfl
     refine done_ (done_of HT_.out (by kernel_rfl)) ?_
     try go_wp2
     refine bodyPost_ret (results_ct rfl _ _ gb199 24 #[.string t204,.slice Ao18 t205.length co18,.bool t208,.string t209] (0,0) _ rfl (by (with_reducible repeat (first|refine blk_drewN ?_ _|refine blk_drew ?_|refine blk_alloc ?_ _));refine blk_put (cs:=#[.string t204,.slice Ao18 t205.length co18,.bool t208,.string (⟨#[]⟩:ByteArray)]) ?_ 3 _ rfl;(with_reducible repeat (first|refine blk_drewN ?_ _|refine blk_drew ?_|refine blk_alloc ?_ _));refine blk_put (cs:=#[.string t204,.slice Ao18 t205.length co18,.bool false,.string (⟨#[]⟩:ByteArray)]) ?_ 2 _ rfl;(with_reducible repeat (first|refine blk_drewN ?_ _|refine blk_drew ?_|refine blk_alloc ?_ _));refine blk_put (cs:=#[.string t204,.slice none 0 0,.bool false,.string (⟨#[]⟩:ByteArray)]) ?_ 1 _ rfl;(with_reducible repeat (first|refine blk_drewN ?_ _|refine blk_drew ?_|refine blk_alloc ?_ _));refine blk_put (cs:=#[.string (⟨#[]⟩:ByteArray),.slice none 0 0,.bool false,.string (⟨#[]⟩:ByteArray)]) ?_ 0 _ rfl;(with_reducible repeat (first|refine blk_drewN ?_ _|refine blk_drew ?_|refine blk_alloc ?_ _));exact BK199.out) Tryd.underlying24 rfl (by kernel_rfl)) rfl ?_
     exact ⟨_,by first|rfl|(simp <;> rfl)|(simp [*] <;> rfl),by (with_reducible repeat (first|apply Kd.R_alloc|apply Kd.R_drewN|apply Kd.R_drew));exact Kd.R_mono (Kd.R_far (p:=⟨gb199,3,none⟩) (Kd.R_far (p:=⟨gb199,2,none⟩) (Kd.R_far (p:=⟨gb199,1,none⟩) (Kd.R_far (p:=⟨gb199,0,none⟩) (Kd.R_types HO207.out BK199.out (by decide)) (fun _ hk=>hk.2) (.string t204)) (fun _ hk=>hk.2) (.slice Ao18 t205.length co18)) (fun _ hk=>hk.2) (.bool t208)) (fun _ hk=>hk.2) (.string t209)) (fun _ hk=>trivial),by repeat (first|(with_reducible first|exact HB.out|apply below_alloc|apply pw_below_drewN|apply below_drew1|refine below_set ?_ GE199.out)|exact HB.out)⟩
    ·rw [if_neg c7] at H
     exact absurd H (by simp)
   ·rw [if_neg c6] at H
    exact absurd H (by simp)
  ·rw [if_neg c5] at H
   have c5b0:decide (t202 < 0) = false:=decide_eq_false c5
   clear c5
   by_cases c22:0 ≤ t202
   ·rw [if_pos c22] at H
    have c22b0:=eq_true c22
    have c22b1:=decide_eq_true c22
    clear c22
    by_cases c23:t202 ≤ (t200.size:Int)
    ·rw [if_pos c23] at H
     have c23b0:=eq_true c23
     have c23b1:=decide_eq_true c23
     clear c23
     replace H:=Option.bind_eq_some_iff.mp H
     obtain ⟨t211,A240,H⟩:=H
     replace H:((impl_readWay.f k t211 ([]:List ByteArray) (t200.extract (t202:Int).toNat t200.size)).bind fun bt212=>(some (bt212.1,bt212.2.1,bt212.2.2.1,bt212.2.2.2.1,bt212.2.2.2.2))) = some (r1,r2,r3,r4,r5):=H
     have A24:=Aside0.mk A240
     clear A240
     have c25b0:=eq_true (of_decide_eq_true (by first|(with_reducible assumption)|assumption):0 ≤ t202)
     have c26b0:=eq_true (of_decide_eq_true (by first|(with_reducible assumption)|assumption):t202 ≤ (t200.size:Int))
     replace H:=Option.bind_eq_some_iff.mp H
     obtain ⟨⟨t212,t213,t216,t217,t218⟩,A270,H⟩:=H
     replace H:(some (t212,t213,t216,t217,t218)) = some (r1,r2,r3,r4,r5):=H
     have A27:=Aside0.mk A270
     clear A270
     simp only [Option.some.injEq,Prod.mk.injEq] at H
     obtain ⟨rfl,rfl,rfl,rfl,rfl⟩:=H
     go_enter Tryd.func22,Tryd.ntmps22
     try go_wp2_with (first|((with_reducible refine gate_dst (N:=2) rfl ?_);refine box_event ?hg (N:=2) ?hd (cs:=#[.string (⟨#[]⟩:ByteArray),.slice none 0 0,.bool false,.string (⟨#[]⟩:ByteArray)]) (t:=24) ?hr ?_;(case hd=>rfl);(case hg=>rfl);(case hr=>first|(go_simp;done)|(go_simp;rfl));intro gb199 hg w28 hbox hb;have n0_:=Aside0.mk (below_step (by repeat (first|(with_reducible first|exact HB.out|apply below_alloc|apply pw_below_drewN|apply below_drew1)|exact HB.out)) hb);have n1_:=Aside0.mk (hbox);have n2_:=Aside0.mk ((by rw [hg];exact (below_size (by repeat (first|(with_reducible first|exact HB.out|apply below_alloc|apply pw_below_drewN|apply below_drew1)|exact HB.out))):w.heap.size ≤ gb199));have n3_:=n2_;clear HB;have HB:=n0_;have BK199:=n1_;have GW199:=n2_;have GE199:=n3_;clear n0_ n1_ n2_ n3_;clear hb hbox hg)|((with_reducible refine gate_callee (f:=41) rfl ?_);refine goesL_ (some 9) rfl rfl Tryd.func41 (by kernel_rfl) rfl #[.string a0,.string (⟨#[47,47]⟩:ByteArray)] rfl (by (try simp only [List.map_toArray,List.map_cons,List.map_nil]);first|done|rfl|(simp only [List.length_drop,List.length_take];rfl)|(simp [Act.eval,Array.getD_eq_getD_getElem?];done)) ?_;(with_reducible refine (strings_CutPrefix.calls a0 (⟨#[47,47]⟩:ByteArray) t200 true _ A2.out).mono ?_);rintro e w' ⟨rfl,⟨nd,rfl⟩⟩;refine ⟨_,rfl,?_⟩;(try (rw [drewN_self w28];generalize hq_:World.drewN w28 _ = w28;have n0_:Aside0 (w28.heap[gb199]? = some (.cells #[.string (⟨#[]⟩:ByteArray),.slice none 0 0,.bool false,.string (⟨#[]⟩:ByteArray)] 24 (0,0))):=⟨by rw [← hq_];exact (by (with_reducible repeat (first|refine blk_drewN ?_ _|refine blk_drew ?_|refine blk_alloc ?_ _));exact BK199.out)⟩;have n1_:Aside0 (Below w.heap.size w w28):=⟨by rw [← hq_];exact (by repeat (first|(with_reducible first|exact HB.out|apply below_alloc|apply pw_below_drewN|apply below_drew1|refine below_set ?_ GE199.out)|exact HB.out))⟩;clear BK199 HB hq_;have BK199:=n0_;have HB:=n1_;clear n0_ n1_)))|((with_reducible refine gate_callee (f:=42) rfl ?_);refine goesL_ (some 16) rfl rfl Tryd.func42 (by kernel_rfl) rfl #[.string t200,.string (⟨#[47,63]⟩:ByteArray)] rfl (by (try simp only [List.map_toArray,List.map_cons,List.map_nil]);first|done|rfl|(simp only [List.length_drop,List.length_take];rfl)|(simp [Act.eval,Array.getD_eq_getD_getElem?];done)) ?_;(with_reducible refine (strings_IndexAny.calls t200 (⟨#[47,63]⟩:ByteArray) t202 _ A4.out).mono ?_);rintro e w29 ⟨rfl,hb⟩;refine ⟨_,rfl,?_⟩;have n0_:=Aside0.mk (blk_below (g:=gb199) (o:=.cells #[.string (⟨#[]⟩:ByteArray),.slice none 0 0,.bool false,.string (⟨#[]⟩:ByteArray)] 24 (0,0)) (by (with_reducible repeat (first|refine blk_drewN ?_ _|refine blk_drew ?_|refine blk_alloc ?_ _));exact BK199.out) hb);have n1_:=Aside0.mk (below_step (by repeat (first|(with_reducible first|exact HB.out|apply below_alloc|apply pw_below_drewN|apply below_drew1|refine below_set ?_ GE199.out)|exact HB.out)) hb);clear BK199;clear HB;have BK199:=n0_;have HB:=n1_;clear n0_ n1_;(try clear hb);(try clear hb2);(try clear hk);(try clear hi)))
     have n0_:=Aside0.mk (blk_drew BK199.out)
     have n1_:=Aside0.mk (below_drew1 HB.out)
     clear BK199
     clear HB
     have BK199:=n0_
     have HB:=n1_
     clear n0_ n1_
     refine start_ (n:=12) (S:=fun w'=>True) (ds:=[]) #[false,false,false,false,false,false,false,false,false,false,false,false] (by kernel_rfl) rfl rfl trivial (fun hHeld=>?_);refine with_tabW impl_readWhole.tab7 impl_readWhole.bits7 (fun HT_ HW_=>?_)
     generalize w29.drew = w30 at BK199 HB hHeld ⊢
     refine pure_ (i:=0) (N:=some 21) (v:=?_) (a':=?_) #[true,false,false,false,false,false,false,false,false,false,false,false] rfl rfl (any_of HT_.out (by kernel_rfl)) (fun _ _ _ h=>h) (Or.inl ⟨by rfl,?_⟩) ?_ ?_
     rotate_left
     ·intro w'
      go_simp
      with_reducible rfl
     rotate_left
     ·simp only [Act.put,List.setIfInBounds_toArray,List.set_cons_zero,List.set_cons_succ,i64_w,i32_w]
      rfl
     refine pure_ (i:=1) (N:=some 22) (v:=?_) (a':=?_) #[true,true,false,false,false,false,false,false,false,false,false,false] rfl rfl (any_of HT_.out (by kernel_rfl)) (fun _ _ _ h=>h) (Or.inl ⟨by rfl,?_⟩) ?_ ?_
     rotate_left
     ·intro w'
      go_simp
      with_reducible rfl
     rotate_left
     ·simp only [Act.put,List.setIfInBounds_toArray,List.set_cons_zero,List.set_cons_succ,i64_w,i32_w]
      rfl
     refine pure_ (i:=2) (N:=some 23) (v:=?_) (a':=?_) #[true,true,true,false,false,false,false,false,false,false,false,false] rfl rfl (any_of HT_.out (by kernel_rfl)) (fun _ _ _ h=>h) (Or.inl ⟨by rfl,?_⟩) ?_ ?_
     rotate_left
     ·intro w'
      go_simp
      with_reducible rfl
     rotate_left
     ·simp only [Act.put,List.setIfInBounds_toArray,List.set_cons_zero,List.set_cons_succ,i64_w,i32_w]
      rfl
     refine pure_ (i:=4) (N:=some 25) (v:=?_) (a':=?_) #[true,true,true,false,true,false,false,false,false,false,false,false] rfl rfl (any_of HT_.out (by kernel_rfl)) (fun _ _ _ h=>h) (Or.inl ⟨by rfl,?_⟩) ?_ ?_
     rotate_left
     ·intro w'
      go_simp
      with_reducible rfl
     rotate_left
     ·simp only [Act.put,List.setIfInBounds_toArray,List.set_cons_zero,List.set_cons_succ,i64_w,i32_w]
      rfl
     refine pure_ (i:=5) (N:=some 26) (v:=?_) (a':=?_) #[true,true,true,false,true,true,false,false,false,false,false,false] rfl rfl (any_of HT_.out (by kernel_rfl)) (fun _ _ _ h=>h) (Or.inl ⟨by rfl,?_⟩) ?_ ?_
     rotate_left
     ·intro w'
      go_simp
      with_reducible rfl
     rotate_left
     ·simp only [Act.put,List.setIfInBounds_toArray,List.set_cons_zero,List.set_cons_succ,i64_w,i32_w]
      rfl
     refine pure_ (i:=6) (N:=some 27) (v:=?_) (a':=?_) #[true,true,true,false,true,true,true,false,false,false,false,false] rfl rfl (any_of HT_.out (by kernel_rfl)) (fun _ _ _ h=>h) (Or.inl ⟨by rfl,?_⟩) ?_ ?_
     rotate_left
     ·intro w'
      go_simp
      with_reducible rfl
     rotate_left
     ·simp only [Act.put,List.setIfInBounds_toArray,List.set_cons_zero,List.set_cons_succ,i64_w,i32_w]
      rfl
     refine one_ (i:=3) (N:=some 24) #[true,true,true,true,true,true,true,false,false,false,false,false] rfl rfl (one_of HT_.out (by kernel_rfl)) (by decide) (fun K hK=>?_)
     refine goes_ Tryd.func44 (by kernel_rfl) rfl #[.string (t200.extract 0 (t202:Int).toNat)] (by rfl) rfl rfl (by (try simp only [List.map_toArray,List.map_cons,List.map_nil]);first|done|rfl|(simp only [List.length_drop,List.length_take];rfl)|(simp [Act.eval,Array.getD_eq_getD_getElem?];done)) ?_
     with_reducible refine (impl_smallLetters.calls (t200.extract 0 (t202:Int).toNat) t211 _ A24.out).mono ?_
     rintro e w31 ⟨rfl,hb⟩
     refine ⟨_,rfl,?_⟩
     have n0_:=Aside0.mk (blk_below (g:=gb199) (o:=.cells #[.string (⟨#[]⟩:ByteArray),.slice none 0 0,.bool false,.string (⟨#[]⟩:ByteArray)] 24 (0,0)) (by (with_reducible repeat (first|refine blk_drewN ?_ _|refine blk_drew ?_|refine blk_alloc ?_ _));exact BK199.out) hb)
     have n1_:=Aside0.mk (below_step (by repeat (first|(with_reducible first|exact HB.out|apply below_alloc|apply pw_below_drewN|apply below_drew1|refine below_set ?_ GE199.out)|exact HB.out)) hb)
     clear BK199
     clear HB
     have BK199:=n0_
     have HB:=n1_
     clear n0_ n1_
     (try clear hb)
     (try clear hb2)
     (try clear hk)
     (try clear hi)
     refine hK.out _ _ trivial (fun hHeld=>?_)
     clear hK K
     refine norm_ (a':=?_) ?_ ?_
     rotate_left
     ·show Act.put _ (some 24) _ = _
      simp only [Act.put,List.setIfInBounds_toArray,List.set_cons_zero,List.set_cons_succ,i64_w,i32_w]
      rfl
     refine one_ (i:=7) (N:=some 28) #[true,true,true,true,true,true,true,true,false,false,false,false] rfl rfl (one_of HT_.out (by kernel_rfl)) (by decide) (fun K hK=>?_)
     refine goes_ Tryd.func43 (by kernel_rfl) rfl #[.string t211,.slice none 0 0,.string (t200.extract (t202:Int).toNat t200.size)] (by rfl) rfl rfl (by (try simp only [List.map_toArray,List.map_cons,List.map_nil]);first|done|rfl|(simp only [List.length_drop,List.length_take];rfl)|(simp [Act.eval,Array.getD_eq_getD_getElem?];done)) ?_
     refine (impl_readWay.calls k t211 _ _ ([]:List ByteArray) (t200.extract (t202:Int).toNat t200.size) t212 t213 t216 t217 t218 _ ?side1 ?side2 A27.out).mono ?_
     (case side1=>exact Kd.C_nil _ _)
     (case side2=>exact Nat.le_refl _)
     rintro e w32 ⟨v214,rfl,ho0,hb⟩
     refine ⟨_,rfl,?_⟩
     have n0_:=Aside0.mk (Kd.R_lower ho0 (below_size (by repeat (first|(with_reducible first|exact HB.out|apply below_alloc|apply pw_below_drewN|apply below_drew1|refine below_set ?_ GE199.out)|exact HB.out))))
     have n1_:=Aside0.mk (blk_below (g:=gb199) (o:=.cells #[.string (⟨#[]⟩:ByteArray),.slice none 0 0,.bool false,.string (⟨#[]⟩:ByteArray)] 24 (0,0)) (by (with_reducible repeat (first|refine blk_drewN ?_ _|refine blk_drew ?_|refine blk_alloc ?_ _));exact BK199.out) hb)
     have n2_:=Aside0.mk (below_step (by repeat (first|(with_reducible first|exact HB.out|apply below_alloc|apply pw_below_drewN|apply below_drew1|refine below_set ?_ GE199.out)|exact HB.out)) hb)
     clear BK199
     clear HB
     have HO215:=n0_
     have BK199:=n1_
     have HB:=n2_
     clear n0_ n1_ n2_
     (try clear hb)
     (try clear hb2)
     (try clear hk)
     (try clear hi)
     (try clear ho0)
     obtain ⟨Ao34,co34,eo34⟩:=Kd.R_slice HO215.out
     (first|subst eo34|(injection eo34 with f1_ f2_ f3_;have f4_:=f1_.symm;have f5_:=f3_.symm;clear f1_ f2_ f3_;subst f4_;subst f5_))
     refine hK.out _ _ trivial (fun hHeld=>?_)
     clear hK K
     refine norm_ (a':=?_) ?_ ?_
     rotate_left
     ·show Act.put _ (some 28) _ = _
      simp only [Act.put,List.setIfInBounds_toArray,List.set_cons_zero,List.set_cons_succ,i64_w,i32_w]
      rfl
     refine pure_ (i:=8) (N:=some 29) (v:=?_) (a':=?_) #[true,true,true,true,true,true,true,true,true,false,false,false] rfl rfl (any_of HT_.out (by kernel_rfl)) (fun _ _ _ h=>h) (Or.inl ⟨by rfl,?_⟩) ?_ ?_
     rotate_left
     ·intro w'
      go_simp
      with_reducible rfl
     rotate_left
     ·simp only [Act.put,List.setIfInBounds_toArray,List.set_cons_zero,List.set_cons_succ,i64_w,i32_w]
      rfl
     refine pure_ (i:=9) (N:=some 30) (v:=?_) (a':=?_) #[true,true,true,true,true,true,true,true,true,true,false,false] rfl rfl (any_of HT_.out (by kernel_rfl)) (fun _ _ _ h=>h) (Or.inl ⟨by rfl,?_⟩) ?_ ?_
     rotate_left
     ·intro w'
      go_simp
      with_reducible rfl
     rotate_left
     ·simp only [Act.put,List.setIfInBounds_toArray,List.set_cons_zero,List.set_cons_succ,i64_w,i32_w]
      rfl
     refine one_ (i:=10) (N:=none) #[true,true,true,true,true,true,true,true,true,true,true,false] rfl rfl (one_of HT_.out (by kernel_rfl)) (by decide) (fun K hK=>?_)
     have hs33:w32.cell? ⟨gb199,0,none⟩ = some (.string (⟨#[]⟩:ByteArray)):=(blk_cell BK199.out 0).trans rfl
     have hfs33:=blk_frozen BK199.out 0
     have hs35:w32.cell? ⟨gb199,1,none⟩ = some (.slice none 0 0):=(blk_cell BK199.out 1).trans rfl
     have hfs35:=blk_frozen BK199.out 1
     have hs36:w32.cell? ⟨gb199,2,none⟩ = some (.bool false):=(blk_cell BK199.out 2).trans rfl
     have hfs36:=blk_frozen BK199.out 2
     have hs37:w32.cell? ⟨gb199,3,none⟩ = some (.string (⟨#[]⟩:ByteArray)):=(blk_cell BK199.out 3).trans rfl
     have hfs37:=blk_frozen BK199.out 3
     refine skip_ (w1:=?_) (by rfl) rfl ?_ ?_
     rotate_left
     ·go_simp
      rfl
     refine hK.out _ _ trivial (fun hHeld=>?_)
     clear hK K
     refine pure_ (i:=11) (N:=some 3) (v:=?_) (a':=?_) #[true,true,true,true,true,true,true,true,true,true,true,true] rfl rfl (any_of HT_.out (by kernel_rfl)) (fun _ _ _ h=>h) (Or.inl ⟨by rfl,?_⟩) ?_ ?_
     rotate_left
     ·intro w'
      go_simp
      with_reducible rfl
     rotate_left
     ·simp only [Act.put,List.setIfInBounds_toArray,List.set_cons_zero,List.set_cons_succ,i64_w,i32_w]
      rfl
     refine done_ (done_of HT_.out (by kernel_rfl)) ?_
     try go_wp2
     refine bodyPost_ret (results_ct rfl _ _ gb199 24 #[.string t212,.slice Ao34 t213.length co34,.bool t216,.string t217] (0,0) _ rfl (by (with_reducible repeat (first|refine blk_drewN ?_ _|refine blk_drew ?_|refine blk_alloc ?_ _));refine blk_put (cs:=#[.string t212,.slice Ao34 t213.length co34,.bool t216,.string (⟨#[]⟩:ByteArray)]) ?_ 3 _ rfl;(with_reducible repeat (first|refine blk_drewN ?_ _|refine blk_drew ?_|refine blk_alloc ?_ _));refine blk_put (cs:=#[.string t212,.slice Ao34 t213.length co34,.bool false,.string (⟨#[]⟩:ByteArray)]) ?_ 2 _ rfl;(with_reducible repeat (first|refine blk_drewN ?_ _|refine blk_drew ?_|refine blk_alloc ?_ _));refine blk_put (cs:=#[.string t212,.slice none 0 0,.bool false,.string (⟨#[]⟩:ByteArray)]) ?_ 1 _ rfl;(with_reducible repeat (first|refine blk_drewN ?_ _|refine blk_drew ?_|refine blk_alloc ?_ _));refine blk_put (cs:=#[.string (⟨#[]⟩:ByteArray),.slice none 0 0,.bool false,.string (⟨#[]⟩:ByteArray)]) ?_ 0 _ rfl;(with_reducible repeat (first|refine blk_drewN ?_ _|refine blk_drew ?_|refine blk_alloc ?_ _));exact BK199.out) Tryd.underlying24 rfl (by kernel_rfl)) rfl ?_
     exact ⟨_,by first|rfl|(simp <;> rfl)|(simp [*] <;> rfl),by (with_reducible repeat (first|apply Kd.R_alloc|apply Kd.R_drewN|apply Kd.R_drew));exact Kd.R_mono (Kd.R_far (p:=⟨gb199,3,none⟩) (Kd.R_far (p:=⟨gb199,2,none⟩) (Kd.R_far (p:=⟨gb199,1,none⟩) (Kd.R_far (p:=⟨gb199,0,none⟩) (Kd.R_types HO215.out BK199.out (by decide)) (fun _ hk=>hk.2) (.string t212)) (fun _ hk=>hk.2) (.slice Ao34 t213.length co34)) (fun _ hk=>hk.2) (.bool t216)) (fun _ hk=>hk.2) (.string t217)) (fun _ hk=>trivial),by repeat (first|(with_reducible first|exact HB.out|apply below_alloc|apply pw_below_drewN|apply below_drew1|refine below_set ?_ GE199.out)|exact HB.out)⟩
    ·rw [if_neg c23] at H
     exact absurd H (by simp)
   ·rw [if_neg c22] at H
    exact absurd H (by simp)
 ·replace c3:=Bool.eq_false_iff.mpr c3
  subst c3
  have H1:(some ((⟨#[]⟩:ByteArray),([]:List ByteArray),false,(⟨#[]⟩:ByteArray),false)) = some (r1,r2,r3,r4,r5):=by rw [if_neg (show ¬ (false = true) by decide)] at H;exact H
  clear H
  have H:=H1
  clear H1
  simp only [Option.some.injEq,Prod.mk.injEq] at H
  obtain ⟨rfl,rfl,rfl,rfl,rfl⟩:=H
  go_enter Tryd.func22,Tryd.ntmps22
  go_wp2_with (first|((with_reducible refine gate_dst (N:=2) rfl ?_);refine box_event ?hg (N:=2) ?hd (cs:=#[.string (⟨#[]⟩:ByteArray),.slice none 0 0,.bool false,.string (⟨#[]⟩:ByteArray)]) (t:=24) ?hr ?_;(case hd=>rfl);(case hg=>rfl);(case hr=>first|(go_simp;done)|(go_simp;rfl));intro gb199 hg w38 hbox hb;have n0_:=Aside0.mk (below_step (by repeat (first|(with_reducible first|exact HB.out|apply below_alloc|apply pw_below_drewN|apply below_drew1)|exact HB.out)) hb);have n1_:=Aside0.mk (hbox);have n2_:=Aside0.mk ((by rw [hg];exact (below_size (by repeat (first|(with_reducible first|exact HB.out|apply below_alloc|apply pw_below_drewN|apply below_drew1)|exact HB.out))):w.heap.size ≤ gb199));have n3_:=n2_;clear HB;have HB:=n0_;have BK199:=n1_;have GW199:=n2_;have GE199:=n3_;clear n0_ n1_ n2_ n3_;clear hb hbox hg)|((with_reducible refine gate_callee (f:=41) rfl ?_);refine goesL_ (some 9) rfl rfl Tryd.func41 (by kernel_rfl) rfl #[.string a0,.string (⟨#[47,47]⟩:ByteArray)] rfl (by (try simp only [List.map_toArray,List.map_cons,List.map_nil]);first|done|rfl|(simp only [List.length_drop,List.length_take];rfl)|(simp [Act.eval,Array.getD_eq_getD_getElem?];done)) ?_;(with_reducible refine (strings_CutPrefix.calls a0 (⟨#[47,47]⟩:ByteArray) t200 false _ A2.out).mono ?_);rintro e w' ⟨rfl,⟨nd,rfl⟩⟩;refine ⟨_,rfl,?_⟩;(try (rw [drewN_self w38];generalize hq_:World.drewN w38 _ = w38;have n0_:Aside0 (w38.heap[gb199]? = some (.cells #[.string (⟨#[]⟩:ByteArray),.slice none 0 0,.bool false,.string (⟨#[]⟩:ByteArray)] 24 (0,0))):=⟨by rw [← hq_];exact (by (with_reducible repeat (first|refine blk_drewN ?_ _|refine blk_drew ?_|refine blk_alloc ?_ _));exact BK199.out)⟩;have n1_:Aside0 (Below w.heap.size w w38):=⟨by rw [← hq_];exact (by repeat (first|(with_reducible first|exact HB.out|apply below_alloc|apply pw_below_drewN|apply below_drew1|refine below_set ?_ GE199.out)|exact HB.out))⟩;clear BK199 HB hq_;have BK199:=n0_;have HB:=n1_;clear n0_ n1_));have hcz39_0:w38.cell? ⟨gb199,0,none⟩ = some (.string (⟨#[]⟩:ByteArray)):=(blk_cell BK199.out 0).trans rfl;have hcz39_1:w38.cell? ⟨gb199,1,none⟩ = some (.slice none 0 0):=(blk_cell BK199.out 1).trans rfl;have hcz39_2:w38.cell? ⟨gb199,2,none⟩ = some (.bool false):=(blk_cell BK199.out 2).trans rfl;have hcz39_3:w38.cell? ⟨gb199,3,none⟩ = some (.string (⟨#[]⟩:ByteArray)):=(blk_cell BK199.out 3).trans rfl;have hfz39_0:=blk_frozen BK199.out 0;have hfz39_1:=blk_frozen BK199.out 1;have hfz39_2:=blk_frozen BK199.out 2;have hfz39_3:=blk_frozen BK199.out 3))
  refine bodyPost_ret (results_ct rfl _ _ gb199 24 #[.string (⟨#[]⟩:ByteArray),.slice none 0 0,.bool false,.string (⟨#[]⟩:ByteArray)] (0,0) _ rfl (by (with_reducible repeat (first|refine blk_drewN ?_ _|refine blk_drew ?_|refine blk_alloc ?_ _));refine blk_put (cs:=#[.string (⟨#[]⟩:ByteArray),.slice none 0 0,.bool false,.string (⟨#[]⟩:ByteArray)]) ?_ 3 _ rfl;(with_reducible repeat (first|refine blk_drewN ?_ _|refine blk_drew ?_|refine blk_alloc ?_ _));refine blk_put (cs:=#[.string (⟨#[]⟩:ByteArray),.slice none 0 0,.bool false,.string (⟨#[]⟩:ByteArray)]) ?_ 2 _ rfl;(with_reducible repeat (first|refine blk_drewN ?_ _|refine blk_drew ?_|refine blk_alloc ?_ _));refine blk_put (cs:=#[.string (⟨#[]⟩:ByteArray),.slice none 0 0,.bool false,.string (⟨#[]⟩:ByteArray)]) ?_ 1 _ rfl;(with_reducible repeat (first|refine blk_drewN ?_ _|refine blk_drew ?_|refine blk_alloc ?_ _));refine blk_put (cs:=#[.string (⟨#[]⟩:ByteArray),.slice none 0 0,.bool false,.string (⟨#[]⟩:ByteArray)]) ?_ 0 _ rfl;(with_reducible repeat (first|refine blk_drewN ?_ _|refine blk_drew ?_|refine blk_alloc ?_ _));exact BK199.out) Tryd.underlying24 rfl (by kernel_rfl)) rfl ?_
  exact ⟨_,by first|rfl|(simp <;> rfl)|(simp [*] <;> rfl),by first|exact Kd.R_nil _ _ _ _ _|exact Kd.N_nil _ _ _ _ _|exact Kd.V_nil _ _ _ _ _|exact Kd.Q_nil _ _ _ _ _|exact Kd.S_nil _ _ _ _ _,by repeat (first|(with_reducible first|exact HB.out|apply below_alloc|apply pw_below_drewN|apply below_drew1|refine below_set ?_ GE199.out)|exact HB.out)⟩

/-! ### impl_AddrRead: function 9 -/
def impl_AddrRead.f (k:Nat) (a0:ByteArray):Option (ByteArray × List ByteArray × Bool × ByteArray × Bool):=if (a0.size:Int) > 60 then (some ((⟨#[]⟩:ByteArray),([]:List ByteArray),false,(⟨#[]⟩:ByteArray),false)) else ((strings_Cut.f a0 (⟨#[35]⟩:ByteArray)).bind fun bt220=>((impl_readWhole.f k bt220.1).bind fun bt223=>(some (bt223.1,bt223.2.1,bt223.2.2.1,bt223.2.2.2.1,bt223.2.2.2.2))))
theorem impl_AddrRead.mono:∀ a0 k,LeO (impl_AddrRead.f k a0) (impl_AddrRead.f (k + 1) a0):=by
 intro a0 k
 unfold impl_AddrRead.f
 repeat' first
   | (with_reducible exact impl_readWhole.mono _ _)
   | (with_reducible exact LeO.refl _)
   | (with_reducible exact LeO.none _)
   | (with_reducible refine LeO.ite ?_ ?_)
   | (with_reducible refine LeO.bind ?_ (fun _=>?_))
   | exact impl_readWhole.mono _ _
   | exact LeO.none _
   | refine LeO.ite ?_ ?_
   | refine LeO.bind ?_ (fun _=>?_)
theorem impl_AddrRead.calls (k:Nat) (a0:ByteArray) (r1:ByteArray) (r2:List ByteArray) (r3:Bool) (r4:ByteArray) (r5:Bool) (w:World) (h:impl_AddrRead.f k a0 = some (r1,r2,r3,r4,r5)) :
  Calls Tryd.prog 9 #[.string a0] w fun e w'=>∃ v1_:Value,e = .returned (.tuple #[.agg #[.string r1,v1_,.bool r3,.string r4],.bool r5]) ∧ Kd.R Kd.string 9 w' w.heap.size (fun _=>True) v1_ r2 ∧ Below w.heap.size w w':=by
 have hu24:=Tryd.underlying24
 have HB:=Aside0.mk (Below.refl w.heap.size w)
 have H:(if (a0.size:Int) > 60 then (some ((⟨#[]⟩:ByteArray),([]:List ByteArray),false,(⟨#[]⟩:ByteArray),false)) else ((strings_Cut.f a0 (⟨#[35]⟩:ByteArray)).bind fun bt220=>((impl_readWhole.f k bt220.1).bind fun bt223=>(some (bt223.1,bt223.2.1,bt223.2.2.1,bt223.2.2.2.1,bt223.2.2.2.2))))) = some (r1,r2,r3,r4,r5):=h
 clear h
 by_cases c2:(a0.size:Int) > 60
 ·rw [if_pos c2] at H
  have c2b0:decide (60 < (a0.size:Int)) = true:=decide_eq_true c2
  have c2b1:decide (60 < a0.size) = true:=decide_eq_true (by omega)
  clear c2
  simp only [Option.some.injEq,Prod.mk.injEq] at H
  obtain ⟨rfl,rfl,rfl,rfl,rfl⟩:=H
  go_enter Tryd.func9,Tryd.ntmps9
  go_wp2_with (first|((with_reducible refine gate_dst (N:=2) rfl ?_);refine box_event ?hg (N:=2) ?hd (cs:=#[.string (⟨#[]⟩:ByteArray),.slice none 0 0,.bool false,.string (⟨#[]⟩:ByteArray)]) (t:=24) ?hr ?_;(case hd=>rfl);(case hg=>rfl);(case hr=>first|(go_simp;done)|(go_simp;rfl));intro gb219 hg w3 hbox hb;have n0_:=Aside0.mk (below_step (by repeat (first|(with_reducible first|exact HB.out|apply below_alloc|apply pw_below_drewN|apply below_drew1)|exact HB.out)) hb);have n1_:=Aside0.mk (hbox);have n2_:=Aside0.mk ((by rw [hg];exact (below_size (by repeat (first|(with_reducible first|exact HB.out|apply below_alloc|apply pw_below_drewN|apply below_drew1)|exact HB.out))):w.heap.size ≤ gb219));have n3_:=n2_;clear HB;have HB:=n0_;have BK219:=n1_;have GW219:=n2_;have GE219:=n3_;clear n0_ n1_ n2_ n3_;clear hb hbox hg;have hcz4_0:w3.cell? ⟨gb219,0,none⟩ = some (.string (⟨#[]⟩:ByteArray)):=(blk_cell BK219.out 0).trans rfl;have hcz4_1:w3.cell? ⟨gb219,1,none⟩ = some (.slice none 0 0):=(blk_cell BK219.out 1).trans rfl;have hcz4_2:w3.cell? ⟨gb219,2,none⟩ = some (.bool false):=(blk_cell BK219.out 2).trans rfl;have hcz4_3:w3.cell? ⟨gb219,3,none⟩ = some (.string (⟨#[]⟩:ByteArray)):=(blk_cell BK219.out 3).trans rfl;have hfz4_0:=blk_frozen BK219.out 0;have hfz4_1:=blk_frozen BK219.out 1;have hfz4_2:=blk_frozen BK219.out 2;have hfz4_3:=blk_frozen BK219.out 3))
  refine bodyPost_ret (results_ct rfl _ _ gb219 24 #[.string (⟨#[]⟩:ByteArray),.slice none 0 0,.bool false,.string (⟨#[]⟩:ByteArray)] (0,0) _ rfl (by (with_reducible repeat (first|refine blk_drewN ?_ _|refine blk_drew ?_|refine blk_alloc ?_ _));refine blk_put (cs:=#[.string (⟨#[]⟩:ByteArray),.slice none 0 0,.bool false,.string (⟨#[]⟩:ByteArray)]) ?_ 3 _ rfl;(with_reducible repeat (first|refine blk_drewN ?_ _|refine blk_drew ?_|refine blk_alloc ?_ _));refine blk_put (cs:=#[.string (⟨#[]⟩:ByteArray),.slice none 0 0,.bool false,.string (⟨#[]⟩:ByteArray)]) ?_ 2 _ rfl;(with_reducible repeat (first|refine blk_drewN ?_ _|refine blk_drew ?_|refine blk_alloc ?_ _));refine blk_put (cs:=#[.string (⟨#[]⟩:ByteArray),.slice none 0 0,.bool false,.string (⟨#[]⟩:ByteArray)]) ?_ 1 _ rfl;(with_reducible repeat (first|refine blk_drewN ?_ _|refine blk_drew ?_|refine blk_alloc ?_ _));refine blk_put (cs:=#[.string (⟨#[]⟩:ByteArray),.slice none 0 0,.bool false,.string (⟨#[]⟩:ByteArray)]) ?_ 0 _ rfl;(with_reducible repeat (first|refine blk_drewN ?_ _|refine blk_drew ?_|refine blk_alloc ?_ _));exact BK219.out) Tryd.underlying24 rfl (by kernel_rfl)) rfl ?_
  exact ⟨_,by first|rfl|(simp <;> rfl)|(simp [*] <;> rfl),by first|exact Kd.R_nil _ _ _ _ _|exact Kd.N_nil _ _ _ _ _|exact Kd.V_nil _ _ _ _ _|exact Kd.Q_nil _ _ _ _ _|exact Kd.S_nil _ _ _ _ _,by repeat (first|(with_reducible first|exact HB.out|apply below_alloc|apply pw_below_drewN|apply below_drew1|refine below_set ?_ GE219.out)|exact HB.out)⟩
 ·rw [if_neg c2] at H
  have c2b0:decide (60 < (a0.size:Int)) = false:=decide_eq_false c2
  have c2b1:decide (60 < a0.size) = false:=decide_eq_false (by omega)
  clear c2
  replace H:=Option.bind_eq_some_iff.mp H
  obtain ⟨⟨t220,t221,t222⟩,A50,H⟩:=H
  replace H:((impl_readWhole.f k t220).bind fun bt223=>(some (bt223.1,bt223.2.1,bt223.2.2.1,bt223.2.2.2.1,bt223.2.2.2.2))) = some (r1,r2,r3,r4,r5):=H
  have A5:=Aside0.mk A50
  clear A50
  replace H:=Option.bind_eq_some_iff.mp H
  obtain ⟨⟨t223,t224,t227,t228,t229⟩,A60,H⟩:=H
  replace H:(some (t223,t224,t227,t228,t229)) = some (r1,r2,r3,r4,r5):=H
  have A6:=Aside0.mk A60
  clear A60
  simp only [Option.some.injEq,Prod.mk.injEq] at H
  obtain ⟨rfl,rfl,rfl,rfl,rfl⟩:=H
  go_enter Tryd.func9,Tryd.ntmps9
  go_wp2_with (first|((with_reducible refine gate_dst (N:=2) rfl ?_);refine box_event ?hg (N:=2) ?hd (cs:=#[.string (⟨#[]⟩:ByteArray),.slice none 0 0,.bool false,.string (⟨#[]⟩:ByteArray)]) (t:=24) ?hr ?_;(case hd=>rfl);(case hg=>rfl);(case hr=>first|(go_simp;done)|(go_simp;rfl));intro gb219 hg w7 hbox hb;have n0_:=Aside0.mk (below_step (by repeat (first|(with_reducible first|exact HB.out|apply below_alloc|apply pw_below_drewN|apply below_drew1)|exact HB.out)) hb);have n1_:=Aside0.mk (hbox);have n2_:=Aside0.mk ((by rw [hg];exact (below_size (by repeat (first|(with_reducible first|exact HB.out|apply below_alloc|apply pw_below_drewN|apply below_drew1)|exact HB.out))):w.heap.size ≤ gb219));have n3_:=n2_;clear HB;have HB:=n0_;have BK219:=n1_;have GW219:=n2_;have GE219:=n3_;clear n0_ n1_ n2_ n3_;clear hb hbox hg)|((with_reducible refine gate_callee (f:=21) rfl ?_);refine goesL_ (some 13) rfl rfl Tryd.func21 (by kernel_rfl) rfl #[.string a0,.string (⟨#[35]⟩:ByteArray)] rfl (by (try simp only [List.map_toArray,List.map_cons,List.map_nil]);first|done|rfl|(simp only [List.length_drop,List.length_take];rfl)) ?_;(with_reducible refine (strings_Cut.calls a0 (⟨#[35]⟩:ByteArray) t220 t221 t222 _ A5.out).mono ?_);rintro e w' ⟨rfl,⟨nd,rfl⟩⟩;refine ⟨_,rfl,?_⟩;(try (rw [drewN_self w7];generalize hq_:World.drewN w7 _ = w7;have n0_:Aside0 (w7.heap[gb219]? = some (.cells #[.string (⟨#[]⟩:ByteArray),.slice none 0 0,.bool false,.string (⟨#[]⟩:ByteArray)] 24 (0,0))):=⟨by rw [← hq_];exact (by (with_reducible repeat (first|refine blk_drewN ?_ _|refine blk_drew ?_|refine blk_alloc ?_ _));exact BK219.out)⟩;have n1_:Aside0 (Below w.heap.size w w7):=⟨by rw [← hq_];exact (by repeat (first|(with_reducible first|exact HB.out|apply below_alloc|apply pw_below_drewN|apply below_drew1|refine below_set ?_ GE219.out)|exact HB.out))⟩;clear BK219 HB hq_;have BK219:=n0_;have HB:=n1_;clear n0_ n1_)))|((with_reducible refine gate_callee (f:=22) rfl ?_);refine goesL_ (some 18) rfl rfl Tryd.func22 (by kernel_rfl) rfl #[.string t220] rfl (by (try simp only [List.map_toArray,List.map_cons,List.map_nil]);first|done|rfl|(simp only [List.length_drop,List.length_take];rfl)) ?_;(with_reducible refine (impl_readWhole.calls k t220 t223 t224 t227 t228 t229 _ A6.out).mono ?_);rintro e w8 ⟨v225,rfl,ho0,hb⟩;refine ⟨_,rfl,?_⟩;have n0_:=Aside0.mk (Kd.R_lower ho0 (below_size (by repeat (first|(with_reducible first|exact HB.out|apply below_alloc|apply pw_below_drewN|apply below_drew1|refine below_set ?_ GE219.out)|exact HB.out))));have n1_:=Aside0.mk (blk_below (g:=gb219) (o:=.cells #[.string (⟨#[]⟩:ByteArray),.slice none 0 0,.bool false,.string (⟨#[]⟩:ByteArray)] 24 (0,0)) (by (with_reducible repeat (first|refine blk_drewN ?_ _|refine blk_drew ?_|refine blk_alloc ?_ _));exact BK219.out) hb);have n2_:=Aside0.mk (below_step (by repeat (first|(with_reducible first|exact HB.out|apply below_alloc|apply pw_below_drewN|apply below_drew1|refine below_set ?_ GE219.out)|exact HB.out)) hb);clear BK219;clear HB;have HO226:=n0_;have BK219:=n1_;have HB:=n2_;clear n0_ n1_ n2_;(try clear hb);(try clear hb2);(try clear hk);(try clear hi);(try clear ho0);have hcz9_0:w8.cell? ⟨gb219,0,none⟩ = some (.string (⟨#[]⟩:ByteArray)):=(blk_cell BK219.out 0).trans rfl;have hcz9_1:w8.cell? ⟨gb219,1,none⟩ = some (.slice none 0 0):=(blk_cell BK219.out 1).trans rfl;have hcz9_2:w8.cell? ⟨gb219,2,none⟩ = some (.bool false):=(blk_cell BK219.out 2).trans rfl;have hcz9_3:w8.cell? ⟨gb219,3,none⟩ = some (.string (⟨#[]⟩:ByteArray)):=(blk_cell BK219.out 3).trans rfl;have hfz9_0:=blk_frozen BK219.out 0;have hfz9_1:=blk_frozen BK219.out 1;have hfz9_2:=blk_frozen BK219.out 2;have hfz9_3:=blk_frozen BK219.out 3;obtain ⟨Ao10,co10,eo10⟩:=Kd.R_slice HO226.out;subst eo10))
  refine bodyPost_ret (results_ct rfl _ _ gb219 24 #[.string t223,.slice Ao10 t224.length co10,.bool t227,.string t228] (0,0) _ rfl (by (with_reducible repeat (first|refine blk_drewN ?_ _|refine blk_drew ?_|refine blk_alloc ?_ _));refine blk_put (cs:=#[.string t223,.slice Ao10 t224.length co10,.bool t227,.string (⟨#[]⟩:ByteArray)]) ?_ 3 _ rfl;(with_reducible repeat (first|refine blk_drewN ?_ _|refine blk_drew ?_|refine blk_alloc ?_ _));refine blk_put (cs:=#[.string t223,.slice Ao10 t224.length co10,.bool false,.string (⟨#[]⟩:ByteArray)]) ?_ 2 _ rfl;(with_reducible repeat (first|refine blk_drewN ?_ _|refine blk_drew ?_|refine blk_alloc ?_ _));refine blk_put (cs:=#[.string t223,.slice none 0 0,.bool false,.string (⟨#[]⟩:ByteArray)]) ?_ 1 _ rfl;(with_reducible repeat (first|refine blk_drewN ?_ _|refine blk_drew ?_|refine blk_alloc ?_ _));refine blk_put (cs:=#[.string (⟨#[]⟩:ByteArray),.slice none 0 0,.bool false,.string (⟨#[]⟩:ByteArray)]) ?_ 0 _ rfl;(with_reducible repeat (first|refine blk_drewN ?_ _|refine blk_drew ?_|refine blk_alloc ?_ _));exact BK219.out) Tryd.underlying24 rfl (by kernel_rfl)) rfl ?_
  exact ⟨_,by first|rfl|(simp <;> rfl)|(simp [*] <;> rfl),by (with_reducible repeat (first|apply Kd.R_alloc|apply Kd.R_drewN|apply Kd.R_drew));exact Kd.R_mono (Kd.R_far (p:=⟨gb219,3,none⟩) (Kd.R_far (p:=⟨gb219,2,none⟩) (Kd.R_far (p:=⟨gb219,1,none⟩) (Kd.R_far (p:=⟨gb219,0,none⟩) (Kd.R_types HO226.out BK219.out (by decide)) (fun _ hk=>hk.2) (.string t223)) (fun _ hk=>hk.2) (.slice Ao10 t224.length co10)) (fun _ hk=>hk.2) (.bool t227)) (fun _ hk=>hk.2) (.string t228)) (fun _ hk=>trivial),by repeat (first|(with_reducible first|exact HB.out|apply below_alloc|apply pw_below_drewN|apply below_drew1|refine below_set ?_ GE219.out)|exact HB.out)⟩

end Go.Proofs.YtochmlkladpfgaaDoor.P
