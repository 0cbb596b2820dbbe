-- Written by a program of this session (patch_print.py over the kit's print; given texts in wip/given).
-- Cut down by a program of this session (wip/tools/prune.py) to what its claim can name.
import Derived.Test.YtbnnamjaljohiaaDoorSq
import Derived.Test.YtbnnamjaljohiaaDoorPx0
import Derived.Test.YtbnnamjaljohiaaDoorPx2
import Derived.Test.YtbnnamjaljohiaaDoorPx3
import Derived.Test.YtbnnamjaljohiaaDoorPx4
import Derived.Test.YtbnnamjaljohiaaDoorPx5
namespace Go.Proofs.YtbnnamjaljohiaaDoor.P
open Go.RowKit Go.Proofs.YtbnnamjaljohiaaDoorW.PrintWords Go.Proofs.YtbnnamjaljohiaaDoorW.PrintLast Go.Proofs.YtbnnamjaljohiaaDoorW.PrintMore
attribute [local go_sem] max2_int min2_int max_two min_two max_three min_three max_four min_four   -- for this text's walks alone
set_option linter.unusedVariables false
set_option linter.unusedSimpArgs false
set_option maxHeartbeats 8000000
set_option maxRecDepth 100000

/-! ### spec_l1Up: function 35 -/
def spec_l1Up.f (a0_0:ByteArray) (l0_1:List ByteArray) (a0_2:Bool) (a0_3:ByteArray):Option (ByteArray × List ByteArray × Bool × ByteArray):=(some (([]:List ByteArray):List ByteArray)).bind fun y482=>(if 0 ≤ (mx (wrap64 ((l0_1.length:Int) - 1)) 0) then (if (mx (wrap64 ((l0_1.length:Int) - 1)) 0) ≤ (l0_1.length:Int) then (if y482.length + (l0_1.take ((mx (wrap64 ((l0_1.length:Int) - 1)) 0):Int).toNat).length < 8796093022208 then (some (a0_0,(y482 ++ (l0_1.take ((mx (wrap64 ((l0_1.length:Int) - 1)) 0):Int).toNat)),false,(⟨#[]⟩:ByteArray))) else (none)) else (none)) else (none))
def spec_l1Up.T1:Bool × List (List Nat × List Nat):=(true,[([],[]),([0],[0]),([],[]),([],[]),([3],[3]),([],[]),([5],[5]),([6],[6]),([7],[7]),([8],[8]),([4,9],[4,9]),([2,10],[2,10]),([1,11],[1,11]),([12,11,0,1,2,3,4,5,6,7,8,9,10,11,12],[12])])
def spec_l1Up.B1:List Nat:=[0,1,0,0,8,0,32,96,224,480,1016,2044,4095,8191]
theorem spec_l1Up.tab1:rtab .any (opsOf Tryd.f35 1) = spec_l1Up.T1:=by kernel_rfl
theorem spec_l1Up.bits1:waitsOk spec_l1Up.T1.2 spec_l1Up.B1 = true:=by kernel_rfl
theorem spec_l1Up.calls (a0_0:ByteArray) (A0_1:Option Addr) (c0_1:Nat) (l0_1:List ByteArray) (a0_2:Bool) (a0_3:ByteArray) (r1:ByteArray) (r2:List ByteArray) (r3:Bool) (r4:ByteArray) (w:World) (hr0_1:Kd.C Kd.string w A0_1 l0_1.length l0_1) (hc0_1:l0_1.length ≤ c0_1) (h:spec_l1Up.f a0_0 l0_1 a0_2 a0_3 = some (r1,r2,r3,r4)) :
  Calls Tryd.prog 35 #[.agg #[.string a0_0, .slice A0_1 l0_1.length c0_1, .bool a0_2, .string a0_3]] w fun e w'=>∃ v1_:Value,e = .returned (.agg #[.string r1,v1_, .bool r3, .string r4]) ∧ Kd.R Kd.string 9 w' w.heap.size (fun _=>True) v1_ r2 ∧ Below w.heap.size w w':=by
 have hu25:=Tryd.underlying25
 have HR0_1:=Am hr0_1
 have HC0_1:=Am hc0_1
 clear hr0_1 hc0_1
 have HB:=Am (Below.refl w.heap.size w)
 have H:((some (([]:List ByteArray):List ByteArray)).bind fun y482=>(if 0 ≤ (mx (wrap64 ((l0_1.length:Int) - 1)) 0) then (if (mx (wrap64 ((l0_1.length:Int) - 1)) 0) ≤ (l0_1.length:Int) then (if y482.length + (l0_1.take ((mx (wrap64 ((l0_1.length:Int) - 1)) 0):Int).toNat).length < 8796093022208 then (some (a0_0,(y482 ++ (l0_1.take ((mx (wrap64 ((l0_1.length:Int) - 1)) 0):Int).toNat)),false,(⟨#[]⟩:ByteArray))) else (none)) else (none)) else (none))) = some (r1,r2,r3,r4):=h
 clear h
 obtain ⟨y482,hy482⟩:∃ y_:List ByteArray,y_ = (([]:List ByteArray)):=⟨_,rfl⟩
 replace H:(if 0 ≤ (mx (wrap64 ((l0_1.length:Int) - 1)) 0) then (if (mx (wrap64 ((l0_1.length:Int) - 1)) 0) ≤ (l0_1.length:Int) then (if y482.length + (l0_1.take ((mx (wrap64 ((l0_1.length:Int) - 1)) 0):Int).toNat).length < 8796093022208 then (some (a0_0,(y482 ++ (l0_1.take ((mx (wrap64 ((l0_1.length:Int) - 1)) 0):Int).toNat)),false,(⟨#[]⟩:ByteArray))) else (none)) else (none)) else (none)) = some (r1,r2,r3,r4):=by first|(rw [hy482];with_reducible exact H)|(have H2_:=(Option.bind_some _ _).symm.trans H;rw [hy482];with_reducible exact H2_)|(have H2_:=(Option.bind_some _ _).symm.trans H;with_reducible exact H2_)|with_reducible exact H|(rw [hy482];exact H)|exact H
 have Ny482:=Am hy482
 clear hy482
 obtain ⟨ji2,hji2⟩:∃ j_:Int,(mx (wrap64 ((l0_1.length:Int) - 1)) 0) = j_:=⟨_,rfl⟩
 replace H:(if 0 ≤ (ji2) then (if (ji2) ≤ (l0_1.length:Int) then (if y482.length + (l0_1.take ((ji2):Int).toNat).length < 8796093022208 then (some (a0_0,(y482 ++ (l0_1.take ((ji2):Int).toNat)),false,(⟨#[]⟩:ByteArray))) else (none)) else (none)) else (none)) = some (r1,r2,r3,r4):=by first|(rw [hji2] at H;exact H)|(simp only [hji2] at H ⊢;exact H)
 (try (have hji2l:0 ≤ ji2:=by (rw [← hji2];unfold mx;(repeat' split) <;> omega)))
 (try (have hji2m:0 ≤ ji2:=by omega))
 have hji2_:(if (wrap64 ((l0_1.length:Int) - 1)) < 0 then 0 else (wrap64 ((l0_1.length:Int) - 1))) = ji2:=hji2
 by_cases c3:0 ≤ (ji2)
 ·rw [if_pos c3] at H
  have c3b0:=eq_true c3
  have c3b1:=decide_eq_true c3
  clear c3
  by_cases c4:(ji2) ≤ (l0_1.length:Int)
  ·rw [if_pos c4] at H
   have c4b0:=eq_true c4
   have c4b1:=decide_eq_true c4
   clear c4
   by_cases c5:y482.length + (l0_1.take ((ji2):Int).toNat).length < 8796093022208
   ·rw [if_pos c5] at H
    have LMc5:=Am c5
    clear c5
    obtain ⟨y486,hy486⟩:∃ y_:List ByteArray,y_ = (y482 ++ (l0_1.take ((ji2):Int).toNat)):=⟨_,rfl⟩
    replace H:(some (a0_0,y486,false,(⟨#[]⟩:ByteArray))) = some (r1,r2,r3,r4):=by first|(rw [hy486];with_reducible exact H)|(have H2_:=(Option.bind_some _ _).symm.trans H;rw [hy486];with_reducible exact H2_)|(have H2_:=(Option.bind_some _ _).symm.trans H;with_reducible exact H2_)|with_reducible exact H|(rw [hy486];exact H)|exact H
    have Ny486:=Am hy486
    clear hy486
    simp only [Option.some.injEq,Prod.mk.injEq] at H
    obtain ⟨rfl,rfl,rfl,rfl⟩:=H
    go_enter Tryd.func35,Tryd.ntmps35
    try go_wp2_with (first|((with_reducible refine gate_dst (N:=1) rfl ?_);refine box_event ?hg (N:=1) ?hd (cs:=#[.string a0_0, .slice A0_1 l0_1.length c0_1, .bool a0_2, .string a0_3]) (t:=25) ?hr ?_;(case hd=>rfl);(case hg=>rfl);(case hr=>(go_simp <;> rfl));intro gb480 hg w6 hbox hb;have n0_:=Am (bT (by repeat (first|(with_reducible first|exact HB.out|apply bA|apply bN|apply bD)|exact HB.out)) hb);have n1_:=Am (hbox);have n2_:=Am ((by rw [hg];exact (bU (by repeat (first|(with_reducible first|exact HB.out|apply bA|apply bN|apply bD)|exact HB.out))):w.heap.size ≤ gb480));have n3_:=n2_;clear HB;have HB:=n0_;have BK480:=n1_;have GW480:=n2_;have GE480:=n3_;clear n0_ n1_ n2_ n3_ hb hbox hg)|((with_reducible refine gate_dst (N:=2) rfl ?_);refine box_event ?hg (N:=2) ?hd (cs:=#[.string (⟨#[]⟩:ByteArray), .slice none 0 0, .bool false, .string (⟨#[]⟩:ByteArray)]) (t:=25) ?hr ?_;(case hd=>rfl);(case hg=>rfl);(case hr=>(go_simp <;> rfl));intro gb481 hg w7 hbox hb;have n0_:=Am (blk_below (bB BK480.out) hb);have n1_:=Am (bT (by repeat (first|(with_reducible first|exact HB.out|apply bA|apply bN|apply bD|refine bS ?_ GE480.out)|exact HB.out)) hb);have n2_:=Am (hbox);have n3_:=Am ((by rw [hg];exact (bU (by repeat (first|(with_reducible first|exact HB.out|apply bA|apply bN|apply bD|refine bS ?_ GE480.out)|exact HB.out))):w.heap.size ≤ gb481));have n4_:=n3_;have n5_:=Am ((by rw [hg];exact Nat.ne_of_lt (blk_lt (bB BK480.out)):gb480 ≠ gb481));have n6_:=Am ((by rw [hg];exact Nat.ne_of_gt (blk_lt (bB BK480.out)):gb481 ≠ gb480));clear BK480 HB;have BK480:=n0_;have HB:=n1_;have BK481:=n2_;have GW481:=n3_;have GE481:=n4_;have NB480_481:=n5_;have NB481_480:=n6_;clear n0_ n1_ n2_ n3_ n4_ n5_ n6_ hb hbox hg))
    have n0_:=Am (blk_drew BK480.out)
    have n1_:=Am (blk_drew BK481.out)
    have n2_:=Am (below_drew1 HB.out)
    clear BK480
    clear BK481
    clear HB
    have BK480:=n0_
    have BK481:=n1_
    have HB:=n2_
    clear n0_ n1_ n2_
    obtain ⟨i09,hi09,_,hsz9,_⟩:=info_parts info9
    obtain ⟨hcut9,hA9,hC9⟩:=print_take_of (P:=Tryd.prog) Value.string (⟨#[]⟩:ByteArray) 23 9 .i64 Tryd.underlying23 hi09 hsz9 A0_1 c0_1 l0_1 (ji2) (oD (by assumption)) (oD (by assumption)) HC0_1.out
    have HR485:=Am (Kd.C_of_reads (h1:=fun _=>rfl) (hA9 _ (Kd.reads_of_C HR0_1.out)))
    have HC485:=Am hC9
    clear hA9 hC9 hi09 hsz9
    refine start_ (n:=14) (S:=fun w'=>w'.cell? ⟨gb480,0,none⟩ = some (.string a0_0) ∧ w'.cell? ⟨gb480,1,none⟩ = some (.slice A0_1 l0_1.length c0_1) ∧ w'.cell? ⟨gb480,2,none⟩ = some (.bool a0_2) ∧ w'.cell? ⟨gb480,3,none⟩ = some (.string a0_3)) (ds:=[]) #[false,false,false,false,false,false,false,false,false,false,false,false,false,false] (by kernel_rfl) rfl rfl ⟨bM BK480.out 0 rfl,bM BK480.out 1 rfl,bM BK480.out 2 rfl,bM BK480.out 3 rfl⟩ (fun hHeld=>?_);refine with_tabW spec_l1Up.tab1 spec_l1Up.bits1 (fun HT_ HW_=>?_)
    generalize w7.drew = w8 at BK480 BK481 HB HR485 hHeld ⊢
    refine pure_ (i:=0) (N:=some 3) (v:=?_) (a':=?_) #[true,false,false,false,false,false,false,false,false,false,false,false,false,false] rfl rfl (any_of HT_.out (by kernel_rfl)) (fun _ _ _ h=>h) (Or.inl ⟨by rfl,?_⟩) ?_ ?_
    rotate_left
    ·intro w'
     go_simp
     with_reducible rfl
    rotate_left
    ·simp only [Act.put,List.setIfInBounds_toArray,List.set_cons_zero,List.set_cons_succ,i64_w,i32_w]
     rfl
    refine pure_ (i:=3) (N:=some 6) (v:=?_) (a':=?_) #[true,false,false,true,false,false,false,false,false,false,false,false,false,false] rfl rfl (any_of HT_.out (by kernel_rfl)) (fun _ _ _ h=>h) (Or.inl ⟨by rfl,?_⟩) ?_ ?_
    rotate_left
    ·intro w'
     go_simp
     with_reducible rfl
    rotate_left
    ·simp only [Act.put,List.setIfInBounds_toArray,List.set_cons_zero,List.set_cons_succ,i64_w,i32_w]
     rfl
    refine pure_ (i:=5) (N:=some 8) (v:=?_) (a':=?_) #[true,false,false,true,false,true,false,false,false,false,false,false,false,false] rfl rfl (any_of HT_.out (by kernel_rfl)) (fun _ _ _ h=>h) (Or.inl ⟨by rfl,?_⟩) ?_ ?_
    rotate_left
    ·intro w'
     go_simp
     with_reducible rfl
    rotate_left
    ·simp only [Act.put,List.setIfInBounds_toArray,List.set_cons_zero,List.set_cons_succ,i64_w,i32_w]
     rfl
    refine take_ (i:=1) (N:=some 4) (v:=?_) (a':=?_) #[true,true,false,true,false,true,false,false,false,false,false,false,false,false] rfl rfl (take_ofW HT_.out HW_.out (by kernel_rfl)) (fun _ _ _ h=>h) (Or.inl ⟨by rfl,?_⟩) hHeld ?_ ?_
    rotate_left
    ·rintro w' ⟨s0,s1,s2,s3⟩
     go_simp
     with_reducible rfl
    rotate_left
    ·simp only [Act.put,List.setIfInBounds_toArray,List.set_cons_zero,List.set_cons_succ,i64_w,i32_w]
     rfl
    refine take_ (i:=4) (N:=some 7) (v:=?_) (a':=?_) #[true,true,false,true,true,true,false,false,false,false,false,false,false,false] rfl rfl (take_ofW HT_.out HW_.out (by kernel_rfl)) (fun _ _ _ h=>h) (Or.inl ⟨by rfl,?_⟩) hHeld ?_ ?_
    rotate_left
    ·rintro w' ⟨s0,s1,s2,s3⟩
     go_simp
     with_reducible rfl
    rotate_left
    ·simp only [Act.put,List.setIfInBounds_toArray,List.set_cons_zero,List.set_cons_succ,i64_w,i32_w]
     rfl
    refine take_ (i:=6) (N:=some 9) (v:=?_) (a':=?_) #[true,true,false,true,true,true,true,false,false,false,false,false,false,false] rfl rfl (take_ofW HT_.out HW_.out (by kernel_rfl)) (fun _ _ _ h=>h) (Or.inl ⟨by rfl,?_⟩) hHeld ?_ ?_
    rotate_left
    ·rintro w' ⟨s0,s1,s2,s3⟩
     go_simp
     with_reducible rfl
    rotate_left
    ·simp only [Act.put,List.setIfInBounds_toArray,List.set_cons_zero,List.set_cons_succ,i64_w,i32_w]
     rfl
    refine pure_ (i:=7) (N:=some 10) (v:=?_) (a':=?_) #[true,true,false,true,true,true,true,true,false,false,false,false,false,false] rfl rfl (any_of HT_.out (by kernel_rfl)) (fun _ _ _ h=>h) (Or.inl ⟨by rfl,?_⟩) ?_ ?_
    rotate_left
    ·intro w'
     go_simp
     with_reducible rfl
    rotate_left
    ·simp only [Act.put,List.setIfInBounds_toArray,List.set_cons_zero,List.set_cons_succ,i64_w,i32_w]
     rfl
    refine pure_ (i:=8) (N:=some 11) (v:=?_) (a':=?_) #[true,true,false,true,true,true,true,true,true,false,false,false,false,false] rfl rfl (any_of HT_.out (by kernel_rfl)) (fun _ _ _ h=>h) (Or.inl ⟨by rfl,?_⟩) ?_ ?_
    rotate_left
    ·intro w'
     go_simp
     with_reducible rfl
    rotate_left
    ·simp only [Act.put,List.setIfInBounds_toArray,List.set_cons_zero,List.set_cons_succ,i64_w,i32_w]
     rfl
    refine pure_ (i:=9) (N:=some 12) (v:=?_) (a':=?_) #[true,true,false,true,true,true,true,true,true,true,false,false,false,false] rfl rfl (any_of HT_.out (by kernel_rfl)) (fun _ _ _ h=>h) (Or.inl ⟨by rfl,?_⟩) ?_ ?_
    rotate_left
    ·intro w'
     go_simp
     with_reducible rfl
    rotate_left
    ·simp only [Act.put,List.setIfInBounds_toArray,List.set_cons_zero,List.set_cons_succ,i64_w,i32_w]
     rfl
    refine pure_ (i:=10) (N:=some 13) (v:=?_) (a':=?_) #[true,true,false,true,true,true,true,true,true,true,true,false,false,false] rfl rfl (any_of HT_.out (by kernel_rfl)) (fun _ _ _ h=>h) (Or.inl ⟨by rfl,?_⟩) ?_ ?_
    rotate_left
    ·intro w'
     go_simp
     with_reducible rfl
    rotate_left
    ·simp only [Act.put,List.setIfInBounds_toArray,List.set_cons_zero,List.set_cons_succ,i64_w,i32_w]
     rfl
    refine one_ (i:=2) (N:=some 5) #[true,true,true,true,true,true,true,true,true,true,true,false,false,false] rfl rfl (one_of HT_.out (by kernel_rfl)) (by decide) (fun K hK=>?_)
    refine Kd.R_lit_step Kd.string _ 9 ?hg (N:=5) ?hd (xs:=([]:List ByteArray)) (inner:=[]) (ok:=fun _=>True) (okp:=fun _=>True) ?hr ?hp (fun _ hk=>hk) trivial (Below.refl _ _) (Nat.le_refl _) (by simp) ?_;(case hd=>rfl);(case hg=>rfl);(case hr=>(go_simp <;> rfl));(case hp=>exact (Reps.none _ _))
    intro v483 w10 ho11 hb hg_ hnew_
    clear hg_ hnew_
    (first|rw [← Ny482.out] at ho11|(simp only [Int.reduceToNat] at ho11;rw [← Ny482.out] at ho11))
    have n0_:=Am (Kd.R_lower ho11 (bU (by repeat (first|(with_reducible first|exact HB.out|apply bA|apply bN|apply bD|refine bS ?_ GE480.out|refine bS ?_ GE481.out)|exact HB.out))))
    have n1_:=Am (blk_below (bB BK480.out) hb)
    have n2_:=Am (blk_below (bB BK481.out) hb)
    have n3_:=Am (bT (by repeat (first|(with_reducible first|exact HB.out|apply bA|apply bN|apply bD|refine bS ?_ GE480.out|refine bS ?_ GE481.out)|exact HB.out)) hb)
    clear BK480
    clear BK481
    clear HB
    have HO484:=n0_
    have BK480:=n1_
    have BK481:=n2_
    have HB:=n3_
    clear n0_ n1_ n2_ n3_
    clear hb ho11
    refine hK.out _ _ ⟨bM BK480.out 0 rfl,bM BK480.out 1 rfl,bM BK480.out 2 rfl,bM BK480.out 3 rfl⟩ (fun hHeld=>?_)
    clear hK K
    refine norm_ (a':=?_) ?_ ?_
    rotate_left
    ·show Act.put _ (some 5) _ = _
     simp only [Act.put,List.setIfInBounds_toArray,List.set_cons_zero,List.set_cons_succ,i64_w,i32_w]
     rfl
    refine one_ (i:=11) (N:=some 14) #[true,true,true,true,true,true,true,true,true,true,true,true,false,false] rfl rfl (one_of HT_.out (by kernel_rfl)) (by decide) (fun K hK=>?_)
    refine Kd.R_append_rows_step Kd.string (w0:=w) w.heap.size (by rfl) (.tmp 5) (.tmp 13) 23 9 (.string ⟨#[]⟩) 16 rfl Tryd.underlying23 info9 rfl (by decide) (by omega) v483 y482 (l0_1.take ((ji2):Int).toNat) _ _ _ (fun _=>True) (fun _=>False) rfl rfl ?aO ?aR (fun _ _ h=>h) (fun _ h=>h.elim) ?aF ?aB ?aS ?aL ?_
    (case aR=>first|(rw [← show (l0_1.take ((ji2):Int).toNat).length = (ji2).toNat from (by rw [List.length_take];have h_:((ji2):Int) ≤ (l0_1.length:Int):=oD (by assumption);omega)];(repeat (first|exact (Kd.C_below HR485.out HB.out)|(with_reducible refine bC ?_)));done)|(have e_:=(show (l0_1.take ((ji2):Int).toNat).length = (ji2).toNat from (by rw [List.length_take];have h_:((ji2):Int) ≤ (l0_1.length:Int):=oD (by assumption);omega));have h_:=(Kd.C_below HR485.out HB.out);rw [e_] at h_;(try rw [e_]);(repeat (first|exact h_|(with_reducible refine bC ?_)));done)|(repeat (first|exact (Kd.C_below HR485.out HB.out)|(with_reducible refine bC ?_))))
    (case aB=>exact (by repeat (first|(with_reducible first|exact HB.out|apply bA|apply bN|apply bD|refine bS ?_ GE480.out|refine bS ?_ GE481.out)|exact HB.out)))
    (case aF=>exact (fun _ _=>trivial))
    (case aO=>exact (bR HO484.out))
    (case aS=>exact (bU (by repeat (first|(with_reducible first|exact HB.out|apply bA|apply bN|apply bD|refine bS ?_ GE480.out|refine bS ?_ GE481.out)|exact HB.out))))
    (case aL=>have:=LMc5.out;have hlx_:=(show (l0_1.take ((ji2):Int).toNat).length = (ji2).toNat from (by rw [List.length_take];have h_:((ji2):Int) ≤ (l0_1.length:Int):=oD (by assumption);omega));omega)
    intro v487 w12 ho hb hg hat
    rw [← Ny486.out] at ho
    have n0_:=Am (blk_grown (bB BK480.out) hg (Kd.R_ne HO484.out BK480.out (by decide)))
    have n1_:=Am (blk_grown (bB BK481.out) hg (Kd.R_ne HO484.out BK481.out (by decide)))
    have n2_:=Am (hb)
    have n3_:=Am (ho)
    clear BK480
    clear BK481
    clear HB
    clear HO484
    have BK480:=n0_
    have BK481:=n1_
    have HB:=n2_
    have HO488:=n3_
    clear n0_ n1_ n2_ n3_
    clear ho hb hg hat
    obtain ⟨Ao13,co13,eo13⟩:=Kd.R_slice HO488.out
    (first|subst eo13|(injection eo13 with f1_ f2_ f3_;have f4_:=f1_.symm;have f5_:=f3_.symm;clear f1_ f2_ f3_;subst f4_;subst f5_))
    refine hK.out _ _ ⟨bM BK480.out 0 rfl,bM BK480.out 1 rfl,bM BK480.out 2 rfl,bM BK480.out 3 rfl⟩ (fun hHeld=>?_)
    clear hK K
    refine norm_ (a':=?_) ?_ ?_
    rotate_left
    ·show Act.put _ (some 14) _ = _
     simp only [Act.put,List.setIfInBounds_toArray,List.set_cons_zero,List.set_cons_succ,i64_w,i32_w]
     rfl
    refine pure_ (i:=12) (N:=some 15) (v:=?_) (a':=?_) #[true,true,true,true,true,true,true,true,true,true,true,true,true,false] rfl rfl (any_of HT_.out (by kernel_rfl)) (fun _ _ _ h=>h) (Or.inl ⟨by rfl,?_⟩) ?_ ?_
    rotate_left
    ·intro w'
     go_simp
     with_reducible rfl
    rotate_left
    ·simp only [Act.put,List.setIfInBounds_toArray,List.set_cons_zero,List.set_cons_succ,i64_w,i32_w]
     rfl
    refine one_ (i:=13) (N:=none) #[true,true,true,true,true,true,true,true,true,true,true,true,true,true] rfl rfl (one_of HT_.out (by kernel_rfl)) (by decide) (fun K hK=>?_)
    have hs14:w12.cell? ⟨gb481,0,none⟩ = some (.string (⟨#[]⟩:ByteArray)):=bM BK481.out 0 rfl
    have hfs14:=bZ BK481.out 0
    have hns14_0:=NB480_481.out
    have hms14_0:=NB481_480.out
    have hs15:w12.cell? ⟨gb481,1,none⟩ = some (.slice none 0 0):=bM BK481.out 1 rfl
    have hfs15:=bZ BK481.out 1
    have hns15_0:=NB480_481.out
    have hms15_0:=NB481_480.out
    have hs16:w12.cell? ⟨gb481,2,none⟩ = some (.bool false):=bM BK481.out 2 rfl
    have hfs16:=bZ BK481.out 2
    have hns16_0:=NB480_481.out
    have hms16_0:=NB481_480.out
    have hs17:w12.cell? ⟨gb481,3,none⟩ = some (.string (⟨#[]⟩:ByteArray)):=bM BK481.out 3 rfl
    have hfs17:=bZ BK481.out 3
    have hns17_0:=NB480_481.out
    have hms17_0:=NB481_480.out
    refine skip_ (w1:=?_) (by rfl) rfl ?_ ?_
    rotate_left
    ·go_simp
     rfl
    refine hK.out _ _ ⟨((cell_far (p:=⟨gb481,_,none⟩) NB480_481.out _).trans (((cell_far (p:=⟨gb481,_,none⟩) NB480_481.out _).trans (((cell_far (p:=⟨gb481,_,none⟩) NB480_481.out _).trans (((cell_far (p:=⟨gb481,_,none⟩) NB480_481.out _).trans (hHeld.1)))))))),((cell_far (p:=⟨gb481,_,none⟩) NB480_481.out _).trans (((cell_far (p:=⟨gb481,_,none⟩) NB480_481.out _).trans (((cell_far (p:=⟨gb481,_,none⟩) NB480_481.out _).trans (((cell_far (p:=⟨gb481,_,none⟩) NB480_481.out _).trans (hHeld.2.1)))))))),((cell_far (p:=⟨gb481,_,none⟩) NB480_481.out _).trans (((cell_far (p:=⟨gb481,_,none⟩) NB480_481.out _).trans (((cell_far (p:=⟨gb481,_,none⟩) NB480_481.out _).trans (((cell_far (p:=⟨gb481,_,none⟩) NB480_481.out _).trans (hHeld.2.2.1)))))))),((cell_far (p:=⟨gb481,_,none⟩) NB480_481.out _).trans (((cell_far (p:=⟨gb481,_,none⟩) NB480_481.out _).trans (((cell_far (p:=⟨gb481,_,none⟩) NB480_481.out _).trans (((cell_far (p:=⟨gb481,_,none⟩) NB480_481.out _).trans (hHeld.2.2.2))))))))⟩ (fun hHeld=>?_)
    clear hK K
    refine done_ (done_of HT_.out (by kernel_rfl)) ?_
    try go_wp2
    refine bodyPost_ret (results_cell_row rfl _ _ gb481 25 #[.string a0_0, .slice Ao13 y486.length co13, .bool false, .string (⟨#[]⟩:ByteArray)] (0,0) _ rfl (by refine bB ?_;apply bP;refine bB ?_;exact BK481.out) Tryd.underlying25 rfl (by kernel_rfl)) rfl ?_
    exact ⟨_,by first|rfl|(simp <;> rfl)|(simp only [← hji2];first|rfl|(simp <;> rfl))|(simp [*] <;> rfl),by (with_reducible repeat (first|apply rA|apply rN|apply rD));exact Kd.R_mono (Kd.R_far (p:=⟨gb481,3,none⟩) (Kd.R_far (p:=⟨gb481,2,none⟩) (Kd.R_far (p:=⟨gb481,1,none⟩) (Kd.R_far (p:=⟨gb481,0,none⟩) (Kd.R_types HO488.out BK481.out (by decide)) (fun _ hk=>hk.2) (.string a0_0)) (fun _ hk=>hk.2) (.slice Ao13 y486.length co13)) (fun _ hk=>hk.2) (.bool false)) (fun _ hk=>hk.2) (.string (⟨#[]⟩:ByteArray))) (fun _ hk=>trivial),by repeat (first|(with_reducible first|exact HB.out|apply bA|apply bN|apply bD|refine bS ?_ GE480.out|refine bS ?_ GE481.out)|exact HB.out)⟩
   ·rw [if_neg c5] at H
    exact absurd H (by simp)
  ·rw [if_neg c4] at H
   exact absurd H (by simp)
 ·rw [if_neg c3] at H
  exact absurd H (by simp)

/-! ### spec_AddrJoin: function 12 -/
mutual
def spec_AddrJoin.j0:Nat → ByteArray → Bool → ByteArray → List ByteArray → Bool → ByteArray → Option (ByteArray × List ByteArray × Bool × ByteArray × Bool)
 | 0,_,_,_,_,_,_=>none
 | k + 1,x6,x15,x490000,x490001,x490002,x490003=>if x15 = true then (some ((⟨#[]⟩:ByteArray),([]:List ByteArray),false,(⟨#[]⟩:ByteArray),false)) else (if (x6.size:Int) ≥ 2 then (if 0 ≤ 2 then (if 2 ≤ (x6.size:Int) then (spec_AddrJoin.j1 k x6 ((x6.extract 0 2).toList == ([47,47]:List UInt8)) x490000 x490001 x490002 x490003) else (none)) else (none)) else (spec_AddrJoin.j1 k x6 false x490000 x490001 x490002 x490003))
def spec_AddrJoin.j1:Nat → ByteArray → Bool → ByteArray → List ByteArray → Bool → ByteArray → Option (ByteArray × List ByteArray × Bool × ByteArray × Bool)
 | 0,_,_,_,_,_,_=>none
 | k + 1,x6,x25,x490000,x490001,x490002,x490003=>if x25 = true then (if 2 ≤ (x6.size:Int) then ((spec_l1Whole.f k (x6.extract 2 x6.size)).bind fun bt495=>(some (bt495.1,bt495.2.1,bt495.2.2.1,bt495.2.2.2.1,bt495.2.2.2.2))) else (none)) else (if x6.toList = ([]:List UInt8) then ((some (([]:List ByteArray):List ByteArray)).bind fun y502=>(if y502.length + x490001.length < 8796093022208 then (some (x490000,(y502 ++ x490001),x490002,x490003,true)) else (none))) else (if 0 < (x6.size:Int) then (if (bt x6 0) = 47 then ((spec_l1Way.f k x490000 ([]:List ByteArray) false (⟨#[]⟩:ByteArray) x6).bind fun bt508=>(some (bt508.1,bt508.2.1,bt508.2.2.1,bt508.2.2.2.1,bt508.2.2.2.2))) else (if (bt x6 0) = 63 then ((spec_l1Way.f k x490000 x490001 false (⟨#[]⟩:ByteArray) x6).bind fun bt515=>(some (bt515.1,bt515.2.1,bt515.2.2.1,bt515.2.2.2.1,bt515.2.2.2.2))) else ((spec_l1Up.f x490000 x490001 x490002 x490003).bind fun bt522=>((spec_l1Way.f k bt522.1 bt522.2.1 bt522.2.2.1 bt522.2.2.2 x6).bind fun bt528=>(some (bt528.1,bt528.2.1,bt528.2.2.1,bt528.2.2.2.1,bt528.2.2.2.2)))))) else (none)))
end
def spec_AddrJoin.f (k:Nat) (a0_0:ByteArray) (l0_1:List ByteArray) (a0_2:Bool) (a0_3:ByteArray) (a1:ByteArray):Option (ByteArray × List ByteArray × Bool × ByteArray × Bool):=(spec_l1Cut.f k a1 35).bind fun bt491=>((spec_AddrOk.f k a0_0 l0_1 a0_2 a0_3).bind fun t494=>(if t494 = true then (spec_AddrJoin.j0 k bt491.1 (decide ((a1.size:Int) > 60)) a0_0 l0_1 a0_2 a0_3) else (spec_AddrJoin.j0 k bt491.1 true a0_0 l0_1 a0_2 a0_3)))
theorem spec_AddrJoin.mono_l:∀ k,(∀ y0 y1 y2 y3 y4 y5,LeO (spec_AddrJoin.j0 k y0 y1 y2 y3 y4 y5) (spec_AddrJoin.j0 (k + 1) y0 y1 y2 y3 y4 y5)) ∧ (∀ y0 y1 y2 y3 y4 y5,LeO (spec_AddrJoin.j1 k y0 y1 y2 y3 y4 y5) (spec_AddrJoin.j1 (k + 1) y0 y1 y2 y3 y4 y5))
 | 0=>⟨fun _ _ _ _ _ _ r h=>by simp [spec_AddrJoin.j0] at h,fun _ _ _ _ _ _ r h=>by simp [spec_AddrJoin.j1] at h⟩
 | k + 1=>by
  obtain ⟨ih0,ih1⟩:=spec_AddrJoin.mono_l k
  refine ⟨?_,?_⟩
  ·intro y0 y1 y2 y3 y4 y5
   unfold spec_AddrJoin.j0
   repeat' first
   | (with_reducible apply ih0)
   | (with_reducible apply ih1)
   | (with_reducible apply spec_AddrOk.mono)
   | (with_reducible apply spec_l1Cut.mono)
   | (with_reducible apply spec_l1Way.mono)
   | (with_reducible apply spec_l1Whole.mono)
   | (with_reducible exact LeO.refl _)
   | (with_reducible exact LeO.none _)
   | (with_reducible refine LeO.ite ?_ ?_)
   | (with_reducible refine LeO.bind ?_ (fun _=>?_))
   | exact ih0 _ _ _ _ _ _
   | exact ih1 _ _ _ _ _ _
   | exact spec_AddrOk.mono _ _ _ _ _
   | exact spec_l1Cut.mono _ _ _
   | exact spec_l1Way.mono _ _ _ _ _ _
   | exact spec_l1Whole.mono _ _
   | exact LeO.none _
   | refine LeO.ite ?_ ?_
   | refine LeO.bind ?_ (fun _=>?_)
  ·intro y0 y1 y2 y3 y4 y5
   unfold spec_AddrJoin.j1
   repeat' first
   | (with_reducible apply ih0)
   | (with_reducible apply ih1)
   | (with_reducible apply spec_AddrOk.mono)
   | (with_reducible apply spec_l1Cut.mono)
   | (with_reducible apply spec_l1Way.mono)
   | (with_reducible apply spec_l1Whole.mono)
   | (with_reducible exact LeO.refl _)
   | (with_reducible exact LeO.none _)
   | (with_reducible refine LeO.ite ?_ ?_)
   | (with_reducible refine LeO.bind ?_ (fun _=>?_))
   | exact ih0 _ _ _ _ _ _
   | exact ih1 _ _ _ _ _ _
   | exact spec_AddrOk.mono _ _ _ _ _
   | exact spec_l1Cut.mono _ _ _
   | exact spec_l1Way.mono _ _ _ _ _ _
   | exact spec_l1Whole.mono _ _
   | exact LeO.none _
   | refine LeO.ite ?_ ?_
   | refine LeO.bind ?_ (fun _=>?_)
theorem spec_AddrJoin.mono:∀ a0 a1 a2 a3 a4 k,LeO (spec_AddrJoin.f k a0 a1 a2 a3 a4) (spec_AddrJoin.f (k + 1) a0 a1 a2 a3 a4):=by
 intro a0 a1 a2 a3 a4 k
 obtain ⟨ih0,ih1⟩:=spec_AddrJoin.mono_l k
 unfold spec_AddrJoin.f
 repeat' first
   | (with_reducible apply ih0)
   | (with_reducible apply ih1)
   | (with_reducible apply spec_AddrOk.mono)
   | (with_reducible apply spec_l1Cut.mono)
   | (with_reducible apply spec_l1Way.mono)
   | (with_reducible apply spec_l1Whole.mono)
   | (with_reducible exact LeO.refl _)
   | (with_reducible exact LeO.none _)
   | (with_reducible refine LeO.ite ?_ ?_)
   | (with_reducible refine LeO.bind ?_ (fun _=>?_))
   | exact ih0 _ _ _ _ _ _
   | exact ih1 _ _ _ _ _ _
   | exact spec_AddrOk.mono _ _ _ _ _
   | exact spec_l1Cut.mono _ _ _
   | exact spec_l1Way.mono _ _ _ _ _ _
   | exact spec_l1Whole.mono _ _
   | exact LeO.none _
   | refine LeO.ite ?_ ?_
   | refine LeO.bind ?_ (fun _=>?_)
theorem spec_AddrJoin.calls (k:Nat) (a0_0:ByteArray) (A0_1:Option Addr) (c0_1:Nat) (l0_1:List ByteArray) (a0_2:Bool) (a0_3:ByteArray) (a1:ByteArray) (r1:ByteArray) (r2:List ByteArray) (r3:Bool) (r4:ByteArray) (r5:Bool) (w:World) (hr0_1:Kd.C Kd.string w A0_1 l0_1.length l0_1) (hc0_1:l0_1.length ≤ c0_1) (h:spec_AddrJoin.f k a0_0 l0_1 a0_2 a0_3 a1 = some (r1,r2,r3,r4,r5)) :
  Calls Tryd.prog 12 #[.agg #[.string a0_0, .slice A0_1 l0_1.length c0_1, .bool a0_2, .string a0_3], .string a1] w fun e w'=>∃ v1_:Value,e = .returned (.tuple #[.agg #[.string r1,v1_, .bool r3, .string r4], .bool r5]) ∧ Kd.R Kd.string 9 w' w.heap.size (fun _=>True) v1_ r2 ∧ Below w.heap.size w w':=by
 have hu25:=Tryd.underlying25
 have HR0_1:=Am hr0_1
 have HC0_1:=Am hc0_1
 clear hr0_1 hc0_1
 have HB:=Am (Below.refl w.heap.size w)
 have H:((spec_l1Cut.f k a1 35).bind fun bt491=>((spec_AddrOk.f k a0_0 l0_1 a0_2 a0_3).bind fun t494=>(if t494 = true then (spec_AddrJoin.j0 k bt491.1 (decide ((a1.size:Int) > 60)) a0_0 l0_1 a0_2 a0_3) else (spec_AddrJoin.j0 k bt491.1 true a0_0 l0_1 a0_2 a0_3)))) = some (r1,r2,r3,r4,r5):=h
 clear h
 replace H:=bI H
 obtain ⟨⟨t491,t492,t493⟩,A30,H⟩:=H
 replace H:((spec_AddrOk.f k a0_0 l0_1 a0_2 a0_3).bind fun t494=>(if t494 = true then (spec_AddrJoin.j0 k t491 (decide ((a1.size:Int) > 60)) a0_0 l0_1 a0_2 a0_3) else (spec_AddrJoin.j0 k t491 true a0_0 l0_1 a0_2 a0_3))) = some (r1,r2,r3,r4,r5):=H
 have A3:=Am A30
 clear A30
 have HC4:=Am H
 clear H
 go_enter Tryd.func12,Tryd.ntmps12
 go_upto_region 2 with (first|((with_reducible refine gate_dst (N:=2) rfl ?_);(try (refine gate_guard (by rfl) ?_;dsimp only));refine box_event ?hg (N:=2) ?hd (cs:=#[.string a0_0, .slice A0_1 l0_1.length c0_1, .bool a0_2, .string a0_3]) (t:=25) ?hr ?_;(case hd=>rfl);(case hg=>rfl);(case hr=>(go_simp <;> rfl));intro gb489 hg w5 hbox hb;have n0_:=Am (bT (by repeat (first|(with_reducible first|exact HB.out|apply bA|apply bN|apply bD)|exact HB.out)) hb);have n1_:=Am (hbox);have n2_:=Am ((by rw [hg];exact (bU (by repeat (first|(with_reducible first|exact HB.out|apply bA|apply bN|apply bD)|exact HB.out))):w.heap.size ≤ gb489));have n3_:=n2_;clear HB;have HB:=n0_;have BK489:=n1_;have GW489:=n2_;have GE489:=n3_;clear n0_ n1_ n2_ n3_ hb hbox hg)|((with_reducible refine gate_dst (N:=4) rfl ?_);(try (refine gate_guard (by rfl) ?_;dsimp only));refine box_event ?hg (N:=4) ?hd (cs:=#[.string (⟨#[]⟩:ByteArray), .slice none 0 0, .bool false, .string (⟨#[]⟩:ByteArray)]) (t:=25) ?hr ?_;(case hd=>rfl);(case hg=>rfl);(case hr=>(go_simp <;> rfl));intro gb490 hg w6 hbox hb;have n0_:=Am (blk_below (bB BK489.out) hb);have n1_:=Am (bT (by repeat (first|(with_reducible first|exact HB.out|apply bA|apply bN|apply bD|refine bS ?_ GE489.out)|exact HB.out)) hb);have n2_:=Am (hbox);have n3_:=Am ((by rw [hg];exact (bU (by repeat (first|(with_reducible first|exact HB.out|apply bA|apply bN|apply bD|refine bS ?_ GE489.out)|exact HB.out))):w.heap.size ≤ gb490));have n4_:=n3_;have n5_:=Am ((by rw [hg];exact Nat.ne_of_lt (blk_lt (bB BK489.out)):gb489 ≠ gb490));have n6_:=Am ((by rw [hg];exact Nat.ne_of_gt (blk_lt (bB BK489.out)):gb490 ≠ gb489));clear BK489 HB;have BK489:=n0_;have HB:=n1_;have BK490:=n2_;have GW490:=n3_;have GE490:=n4_;have NB489_490:=n5_;have NB490_489:=n6_;clear n0_ n1_ n2_ n3_ n4_ n5_ n6_ hb hbox hg)|((with_reducible refine gate_callee (f:=32) rfl ?_);refine goesL_ (some 11) rfl rfl Tryd.func32 (by kernel_rfl) rfl #[.string a1, .int .u8 35] rfl (aE2 rfl rfl) ?_;(with_reducible refine (spec_l1Cut.calls k a1 35 t491 t492 t493 _ A3.out).mono ?_);rintro e w' ⟨rfl,⟨nd,rfl⟩⟩;refine ⟨_,rfl,?_⟩))
 (try simp only [Act.put,List.setIfInBounds_toArray,List.set_cons_zero,List.set_cons_succ])
 go_cut [15] (fun v15 wc=>∃ (kq:Nat) (x15_3:Bool),v15 = .bool x15_3 ∧ Aside0 (spec_AddrJoin.j0 kq t491 x15_3 a0_0 l0_1 a0_2 a0_3 = some (r1,r2,r3,r4,r5)) ∧ Aside0 (kq ≤ k) ∧ Aside0 (wc.heap[gb489]? = some (.cells #[.string a0_0,(.slice A0_1 l0_1.length c0_1), .bool a0_2, .string a0_3] 25 (0,0))) ∧ Aside0 (wc.heap[gb490]? = some (.cells #[.string (⟨#[]⟩:ByteArray),(.slice none 0 0), .bool false, .string (⟨#[]⟩:ByteArray)] 25 (0,0))) ∧ Aside0 (Below w.heap.size w wc))
 case first =>
  have H:=HC4.out
  clear HC4
  replace H:=bI H
  obtain ⟨t494,A70,H⟩:=H
  replace H:(if t494 = true then (spec_AddrJoin.j0 k t491 (decide ((a1.size:Int) > 60)) a0_0 l0_1 a0_2 a0_3) else (spec_AddrJoin.j0 k t491 true a0_0 l0_1 a0_2 a0_3)) = some (r1,r2,r3,r4,r5):=H
  have A7:=Am A70
  clear A70
  by_cases c8:t494 = true
  ·subst c8
   have H1:(spec_AddrJoin.j0 k t491 (decide ((a1.size:Int) > 60)) a0_0 l0_1 a0_2 a0_3) = some (r1,r2,r3,r4,r5):=by rw [if_pos rfl] at H;exact H
   clear H
   have H:=H1
   clear H1
   have H':=Am H
   clear H
   have hnb9:=NB489_490.out
   have hnc9:=NB490_489.out
   have hcz10_0:w6.cell? ⟨gb489,0,none⟩ = some (.string a0_0):=bM BK489.out 0 rfl
   have hcz10_1:w6.cell? ⟨gb489,1,none⟩ = some (.slice A0_1 l0_1.length c0_1):=bM BK489.out 1 rfl
   have hcz10_2:w6.cell? ⟨gb489,2,none⟩ = some (.bool a0_2):=bM BK489.out 2 rfl
   have hcz10_3:w6.cell? ⟨gb489,3,none⟩ = some (.string a0_3):=bM BK489.out 3 rfl
   have hfz10_0:=bZ BK489.out 0
   have hfz10_1:=bZ BK489.out 1
   have hfz10_2:=bZ BK489.out 2
   have hfz10_3:=bZ BK489.out 3
   go_wp2_with (first|((with_reducible refine gate_callee (f:=15) rfl ?_);refine goesL_ (some 17) rfl rfl Tryd.func15 (by kernel_rfl) rfl #[.agg #[.string a0_0, .slice A0_1 l0_1.length c0_1, .bool a0_2, .string a0_3]] rfl (aE1 rfl) ?_;(with_reducible refine (spec_AddrOk.calls k a0_0 _ _ l0_1 a0_2 a0_3 true _ ?side1 ?side2 A7.out).mono ?_);(case side1=>repeat (first|exact (Kd.C_below HR0_1.out HB.out)|(with_reducible refine bC ?_)));(case side2=>exact HC0_1.out);rintro e w11 ⟨rfl,hb⟩;refine ⟨_,rfl,?_⟩;have n0_:=Am (blk_below (bB BK489.out) hb);have n1_:=Am (blk_below (bB BK490.out) hb);have n2_:=Am (bT (by repeat (first|(with_reducible first|exact HB.out|apply bA|apply bN|apply bD|refine bS ?_ GE489.out|refine bS ?_ GE490.out)|exact HB.out)) hb);clear BK489 BK490 HB;have BK489:=n0_;have BK490:=n1_;have HB:=n2_;clear n0_ n1_ n2_;(try clear hb)))
   go_meet
   case rel=>exact ⟨_,(decide ((a1.size:Int) > 60)),(by first|rfl|(simp;done)|(simp only [i64_w,i32_w] <;> rfl)|(simp [*];done)|(simp [emp_bne,emp_beq];done)),H',⟨by first|omega|exact Nat.le_refl _⟩,⟨by refine bB ?_;exact BK489.out⟩,⟨by refine bB ?_;exact BK490.out⟩,⟨by repeat (first|(with_reducible first|exact HB.out|apply bA|apply bN|apply bD|refine bS ?_ GE489.out|refine bS ?_ GE490.out)|exact HB.out)⟩⟩
  ·replace c8:=Bool.eq_false_iff.mpr c8
   subst c8
   have H1:(spec_AddrJoin.j0 k t491 true a0_0 l0_1 a0_2 a0_3) = some (r1,r2,r3,r4,r5):=by rw [if_neg (show ¬ (false = true) by decide)] at H;exact H
   clear H
   have H:=H1
   clear H1
   have H':=Am H
   clear H
   have hnb12:=NB489_490.out
   have hnc12:=NB490_489.out
   have hcz13_0:w6.cell? ⟨gb489,0,none⟩ = some (.string a0_0):=bM BK489.out 0 rfl
   have hcz13_1:w6.cell? ⟨gb489,1,none⟩ = some (.slice A0_1 l0_1.length c0_1):=bM BK489.out 1 rfl
   have hcz13_2:w6.cell? ⟨gb489,2,none⟩ = some (.bool a0_2):=bM BK489.out 2 rfl
   have hcz13_3:w6.cell? ⟨gb489,3,none⟩ = some (.string a0_3):=bM BK489.out 3 rfl
   have hfz13_0:=bZ BK489.out 0
   have hfz13_1:=bZ BK489.out 1
   have hfz13_2:=bZ BK489.out 2
   have hfz13_3:=bZ BK489.out 3
   go_wp2_with (first|((with_reducible refine gate_callee (f:=15) rfl ?_);refine goesL_ (some 17) rfl rfl Tryd.func15 (by kernel_rfl) rfl #[.agg #[.string a0_0, .slice A0_1 l0_1.length c0_1, .bool a0_2, .string a0_3]] rfl (aE1 rfl) ?_;(with_reducible refine (spec_AddrOk.calls k a0_0 _ _ l0_1 a0_2 a0_3 false _ ?side1 ?side2 A7.out).mono ?_);(case side1=>repeat (first|exact (Kd.C_below HR0_1.out HB.out)|(with_reducible refine bC ?_)));(case side2=>exact HC0_1.out);rintro e w14 ⟨rfl,hb⟩;refine ⟨_,rfl,?_⟩;have n0_:=Am (blk_below (bB BK489.out) hb);have n1_:=Am (blk_below (bB BK490.out) hb);have n2_:=Am (bT (by repeat (first|(with_reducible first|exact HB.out|apply bA|apply bN|apply bD|refine bS ?_ GE489.out|refine bS ?_ GE490.out)|exact HB.out)) hb);clear BK489 BK490 HB;have BK489:=n0_;have BK490:=n1_;have HB:=n2_;clear n0_ n1_ n2_;(try clear hb)))
   go_meet
   case rel=>exact ⟨_,(true),(by first|rfl|(simp;done)|(simp only [i64_w,i32_w] <;> rfl)|(simp [*];done)|(simp [emp_bne,emp_beq];done)),H',⟨by first|omega|exact Nat.le_refl _⟩,⟨by refine bB ?_;exact BK489.out⟩,⟨by refine bB ?_;exact BK490.out⟩,⟨by repeat (first|(with_reducible first|exact HB.out|apply bA|apply bN|apply bD|refine bS ?_ GE489.out|refine bS ?_ GE490.out)|exact HB.out)⟩⟩
 case rest =>
  clear HC4
  try clear c1
  try clear p2
  try clear c3
  try clear c8
  try clear c9
  try clear c12
  try clear hcz10_0
  try clear hcz10_1
  try clear hcz10_2
  try clear hcz10_3
  try clear hcz13_0
  try clear hcz13_1
  try clear hcz13_2
  try clear hcz13_3
  try clear hfz10_0
  try clear hfz10_1
  try clear hfz10_2
  try clear hfz10_3
  try clear hfz13_0
  try clear hfz13_1
  try clear hfz13_2
  try clear hfz13_3
  obtain ⟨kq,x15_3,rfl,HA,HJ3,BK489,BK490,HB⟩:=hcut
  cases kq with
  | zero=>exact absurd HA.out (by simp [spec_AddrJoin.j0])
  | succ kj3 =>
   have H:=HA.out
   clear HA
   simp only [spec_AddrJoin.j0] at H
   by_cases c15:x15_3 = true
   ·subst c15
    have H1:(some ((⟨#[]⟩:ByteArray),([]:List ByteArray),false,(⟨#[]⟩:ByteArray),false)) = some (r1,r2,r3,r4,r5):=by rw [if_pos rfl] at H;exact H
    clear H
    have H:=H1
    clear H1
    simp only [Option.some.injEq,Prod.mk.injEq] at H
    obtain ⟨rfl,rfl,rfl,rfl,rfl⟩:=H
    have hnb16:=NB490_489.out
    have hnc16:=NB489_490.out
    have hcz17_0:wc.cell? ⟨gb490,0,none⟩ = some (.string (⟨#[]⟩:ByteArray)):=bM BK490.out 0 rfl
    have hcz17_1:wc.cell? ⟨gb490,1,none⟩ = some (.slice none 0 0):=bM BK490.out 1 rfl
    have hcz17_2:wc.cell? ⟨gb490,2,none⟩ = some (.bool false):=bM BK490.out 2 rfl
    have hcz17_3:wc.cell? ⟨gb490,3,none⟩ = some (.string (⟨#[]⟩:ByteArray)):=bM BK490.out 3 rfl
    have hfz17_0:=bZ BK490.out 0
    have hfz17_1:=bZ BK490.out 1
    have hfz17_2:=bZ BK490.out 2
    have hfz17_3:=bZ BK490.out 3
    go_wp2
    refine bodyPost_ret (results_ct rfl _ _ gb490 25 #[.string (⟨#[]⟩:ByteArray), .slice none 0 0, .bool false, .string (⟨#[]⟩:ByteArray)] (0,0) _ rfl (by refine bB ?_;apply bP;refine bB ?_;exact BK490.out) Tryd.underlying25 rfl (by kernel_rfl)) rfl ?_
    exact ⟨_,by first|rfl|(simp <;> rfl)|(simp [*] <;> rfl),by first|exact Kd.R_nil _ _ _ _ _|exact Kd.N_nil _ _ _ _ _|exact Kd.V_nil _ _ _ _ _|exact Kd.Q_nil _ _ _ _ _|exact Kd.S_nil _ _ _ _ _,by repeat (first|(with_reducible first|exact HB.out|apply bA|apply bN|apply bD|refine bS ?_ GE489.out|refine bS ?_ GE490.out)|exact HB.out)⟩
   ·replace c15:=Bool.eq_false_iff.mpr c15
    subst c15
    have H1:(if (t491.size:Int) ≥ 2 then (if 0 ≤ 2 then (if 2 ≤ (t491.size:Int) then (spec_AddrJoin.j1 kj3 t491 ((t491.extract 0 2).toList == ([47,47]:List UInt8)) a0_0 l0_1 a0_2 a0_3) else (none)) else (none)) else (spec_AddrJoin.j1 kj3 t491 false a0_0 l0_1 a0_2 a0_3)) = some (r1,r2,r3,r4,r5):=by rw [if_neg (show ¬ (false = true) by decide)] at H;exact H
    clear H
    have H:=H1
    clear H1
    have HC18:=Am H
    clear H
    go_upto_region 4 with (fail)
    go_cut [25] (fun v25 wc=>∃ (kq:Nat) (x25_17:Bool),v25 = .bool x25_17 ∧ Aside0 (spec_AddrJoin.j1 kq t491 x25_17 a0_0 l0_1 a0_2 a0_3 = some (r1,r2,r3,r4,r5)) ∧ Aside0 (kq ≤ kj3) ∧ Aside0 (wc.heap[gb489]? = some (.cells #[.string a0_0,(.slice A0_1 l0_1.length c0_1), .bool a0_2, .string a0_3] 25 (0,0))) ∧ Aside0 (wc.heap[gb490]? = some (.cells #[.string (⟨#[]⟩:ByteArray),(.slice none 0 0), .bool false, .string (⟨#[]⟩:ByteArray)] 25 (0,0))) ∧ Aside0 (Below w.heap.size w wc))
    case first =>
     have H:=HC18.out
     clear HC18
     by_cases c19:(t491.size:Int) ≥ 2
     ·rw [if_pos c19] at H
      have c19b0:decide (2 ≤ (t491.size:Int)) = true:=decide_eq_true c19
      have c19b1:decide (2 ≤ t491.size) = true:=decide_eq_true (by omega)
      clear c19
      (first|rw [c19b0]|(simp only [i64_w,i32_w];rw [c19b0])|skip)
      by_cases c20:0 ≤ 2
      ·rw [if_pos c20] at H
       have c20b0:=eq_true c20
       have c20b1:=decide_eq_true c20
       clear c20
       by_cases c21:2 ≤ (t491.size:Int)
       ·rw [if_pos c21] at H
        have c21b0:=eq_true c21
        have c21b1:=decide_eq_true c21
        clear c21
        have H':=Am H
        clear H
        go_wp2
        go_meet
        case rel=>exact ⟨_,(((t491.extract 0 2).toList == ([47,47]:List UInt8))),(by first|rfl|(simp;done)|(simp only [i64_w,i32_w] <;> rfl)|(simp [*];done)|(simp [emp_bne,emp_beq];done)),H',⟨by have:=HJ3.out;first|omega|exact Nat.le_refl _⟩,⟨by refine bB ?_;exact BK489.out⟩,⟨by refine bB ?_;exact BK490.out⟩,⟨by repeat (first|(with_reducible first|exact HB.out|apply bA|apply bN|apply bD|refine bS ?_ GE489.out|refine bS ?_ GE490.out)|exact HB.out)⟩⟩
       ·rw [if_neg c21] at H
        exact absurd H (by simp)
      ·rw [if_neg c20] at H
       exact absurd H (by simp)
     ·rw [if_neg c19] at H
      have c19b0:decide (2 ≤ (t491.size:Int)) = false:=decide_eq_false c19
      have c19b1:decide (2 ≤ t491.size) = false:=decide_eq_false (by omega)
      clear c19
      (first|rw [c19b0]|(simp only [i64_w,i32_w];rw [c19b0])|skip)
      have H':=Am H
      clear H
      go_wp2
      go_meet
      case rel=>exact ⟨_,(false),(by first|rfl|(simp;done)|(simp only [i64_w,i32_w] <;> rfl)|(simp [*];done)|(simp [emp_bne,emp_beq];done)),H',⟨by have:=HJ3.out;first|omega|exact Nat.le_refl _⟩,⟨by refine bB ?_;exact BK489.out⟩,⟨by refine bB ?_;exact BK490.out⟩,⟨by repeat (first|(with_reducible first|exact HB.out|apply bA|apply bN|apply bD|refine bS ?_ GE489.out|refine bS ?_ GE490.out)|exact HB.out)⟩⟩
    case rest =>
     clear HC18
     try clear c1
     try clear c2
     try clear p2
     try clear c3
     try clear c8
     try clear c9
     try clear c12
     try clear c15
     try clear c16
     try clear c19
     try clear c19b0
     try clear c19b1
     try clear c20
     try clear c20b0
     try clear c20b1
     try clear c21
     try clear c21b0
     try clear c21b1
     try clear hcz10_0
     try clear hcz10_1
     try clear hcz10_2
     try clear hcz10_3
     try clear hcz13_0
     try clear hcz13_1
     try clear hcz13_2
     try clear hcz13_3
     try clear hcz17_0
     try clear hcz17_1
     try clear hcz17_2
     try clear hcz17_3
     try clear hfz10_0
     try clear hfz10_1
     try clear hfz10_2
     try clear hfz10_3
     try clear hfz13_0
     try clear hfz13_1
     try clear hfz13_2
     try clear hfz13_3
     try clear hfz17_0
     try clear hfz17_1
     try clear hfz17_2
     try clear hfz17_3
     try clear p2
     obtain ⟨kq,x25_17,rfl,HA,HJ17,BK489,BK490,HB⟩:=hcut
     cases kq with
     | zero=>exact absurd HA.out (by simp [spec_AddrJoin.j1])
     | succ kj17 =>
      have H:=HA.out
      clear HA
      simp only [spec_AddrJoin.j1] at H
      by_cases c22:x25_17 = true
      ·subst c22
       have H1:(if 2 ≤ (t491.size:Int) then ((spec_l1Whole.f kj17 (t491.extract 2 t491.size)).bind fun bt495=>(some (bt495.1,bt495.2.1,bt495.2.2.1,bt495.2.2.2.1,bt495.2.2.2.2))) else (none)) = some (r1,r2,r3,r4,r5):=by rw [if_pos rfl] at H;exact H
       clear H
       have H:=H1
       clear H1
       by_cases c23:2 ≤ (t491.size:Int)
       ·rw [if_pos c23] at H
        have c23b0:=eq_true c23
        have c23b1:=decide_eq_true c23
        clear c23
        replace H:=bI H
        obtain ⟨⟨t495,t496,t499,t500,t501⟩,A240,H⟩:=H
        replace H:(some (t495,t496,t499,t500,t501)) = some (r1,r2,r3,r4,r5):=H
        have A24:=Am A240
        clear A240
        simp only [Option.some.injEq,Prod.mk.injEq] at H
        obtain ⟨rfl,rfl,rfl,rfl,rfl⟩:=H
        go_wp2_with (first|((with_reducible refine gate_callee (f:=33) rfl ?_);refine goesL_ (some 36) rfl rfl Tryd.func33 (by kernel_rfl) rfl #[.string (t491.extract 2 t491.size)] rfl (aE1 rfl) ?_;(with_reducible refine (spec_l1Whole.calls kj17 (t491.extract 2 t491.size) t495 t496 t499 t500 t501 _ A24.out).mono ?_);rintro e w25 ⟨v497,rfl,ho0,hb⟩;refine ⟨_,rfl,?_⟩;have n0_:=Am (Kd.R_lower ho0 (bU (by repeat (first|(with_reducible first|exact HB.out|apply bA|apply bN|apply bD|refine bS ?_ GE489.out|refine bS ?_ GE490.out)|exact HB.out))));have n1_:=Am (blk_below (bB BK489.out) hb);have n2_:=Am (blk_below (bB BK490.out) hb);have n3_:=Am (bT (by repeat (first|(with_reducible first|exact HB.out|apply bA|apply bN|apply bD|refine bS ?_ GE489.out|refine bS ?_ GE490.out)|exact HB.out)) hb);clear BK489 BK490 HB;have HO498:=n0_;have BK489:=n1_;have BK490:=n2_;have HB:=n3_;clear n0_ n1_ n2_ n3_;(try clear hb);(try clear ho0);have hnb26:=NB490_489.out;have hnc26:=NB489_490.out;have hcz27_0:w25.cell? ⟨gb490,0,none⟩ = some (.string (⟨#[]⟩:ByteArray)):=bM BK490.out 0 rfl;have hcz27_1:w25.cell? ⟨gb490,1,none⟩ = some (.slice none 0 0):=bM BK490.out 1 rfl;have hcz27_2:w25.cell? ⟨gb490,2,none⟩ = some (.bool false):=bM BK490.out 2 rfl;have hcz27_3:w25.cell? ⟨gb490,3,none⟩ = some (.string (⟨#[]⟩:ByteArray)):=bM BK490.out 3 rfl;have hfz27_0:=bZ BK490.out 0;have hfz27_1:=bZ BK490.out 1;have hfz27_2:=bZ BK490.out 2;have hfz27_3:=bZ BK490.out 3;obtain ⟨Ao28,co28,eo28⟩:=Kd.R_slice HO498.out;subst eo28))
        refine bodyPost_ret (results_ct rfl _ _ gb490 25 #[.string t495, .slice Ao28 t496.length co28, .bool t499, .string t500] (0,0) _ rfl (by refine bB ?_;apply bP;refine bB ?_;exact BK490.out) Tryd.underlying25 rfl (by kernel_rfl)) rfl ?_
        exact ⟨_,by first|rfl|(simp <;> rfl)|(simp [*] <;> rfl),by (with_reducible repeat (first|apply rA|apply rN|apply rD));exact Kd.R_mono (Kd.R_far (p:=⟨gb490,3,none⟩) (Kd.R_far (p:=⟨gb490,2,none⟩) (Kd.R_far (p:=⟨gb490,1,none⟩) (Kd.R_far (p:=⟨gb490,0,none⟩) (Kd.R_types HO498.out BK490.out (by decide)) (fun _ hk=>hk.2) (.string t495)) (fun _ hk=>hk.2) (.slice Ao28 t496.length co28)) (fun _ hk=>hk.2) (.bool t499)) (fun _ hk=>hk.2) (.string t500)) (fun _ hk=>trivial),by repeat (first|(with_reducible first|exact HB.out|apply bA|apply bN|apply bD|refine bS ?_ GE489.out|refine bS ?_ GE490.out)|exact HB.out)⟩
       ·rw [if_neg c23] at H
        exact absurd H (by simp)
      ·replace c22:=Bool.eq_false_iff.mpr c22
       subst c22
       have H1:(if t491.toList = ([]:List UInt8) then ((some (([]:List ByteArray):List ByteArray)).bind fun y502=>(if y502.length + l0_1.length < 8796093022208 then (some (a0_0,(y502 ++ l0_1),a0_2,a0_3,true)) else (none))) else (if 0 < (t491.size:Int) then (if (bt t491 0) = 47 then ((spec_l1Way.f kj17 a0_0 ([]:List ByteArray) false (⟨#[]⟩:ByteArray) t491).bind fun bt508=>(some (bt508.1,bt508.2.1,bt508.2.2.1,bt508.2.2.2.1,bt508.2.2.2.2))) else (if (bt t491 0) = 63 then ((spec_l1Way.f kj17 a0_0 l0_1 false (⟨#[]⟩:ByteArray) t491).bind fun bt515=>(some (bt515.1,bt515.2.1,bt515.2.2.1,bt515.2.2.2.1,bt515.2.2.2.2))) else ((spec_l1Up.f a0_0 l0_1 a0_2 a0_3).bind fun bt522=>((spec_l1Way.f kj17 bt522.1 bt522.2.1 bt522.2.2.1 bt522.2.2.2 t491).bind fun bt528=>(some (bt528.1,bt528.2.1,bt528.2.2.1,bt528.2.2.2.1,bt528.2.2.2.2)))))) else (none))) = some (r1,r2,r3,r4,r5):=by rw [if_neg (show ¬ (false = true) by decide)] at H;exact H
       clear H
       have H:=H1
       clear H1
       by_cases c29:t491.toList = ([]:List UInt8)
       ·rw [if_pos c29] at H
        (try (have c29b0:t491.toList.isEmpty = true:=by simpa using c29))
        have c29b1:(t491.toList == ([]:List UInt8)) = true:=beq_iff_eq.mpr c29
        have c29b2:(t491.toList != ([]:List UInt8)) = false:=bne_eq_false_iff_eq.mpr c29
        clear c29
        obtain ⟨y502,hy502⟩:∃ y_:List ByteArray,y_ = (([]:List ByteArray)):=⟨_,rfl⟩
        replace H:(if y502.length + l0_1.length < 8796093022208 then (some (a0_0,(y502 ++ l0_1),a0_2,a0_3,true)) else (none)) = some (r1,r2,r3,r4,r5):=by first|(rw [hy502];with_reducible exact H)|(have H2_:=(Option.bind_some _ _).symm.trans H;rw [hy502];with_reducible exact H2_)|(have H2_:=(Option.bind_some _ _).symm.trans H;with_reducible exact H2_)|with_reducible exact H|(rw [hy502];exact H)|exact H
        have Ny502:=Am hy502
        clear hy502
        by_cases c30:y502.length + l0_1.length < 8796093022208
        ·rw [if_pos c30] at H
         have LMc30:=Am c30
         clear c30
         obtain ⟨y505,hy505⟩:∃ y_:List ByteArray,y_ = (y502 ++ l0_1):=⟨_,rfl⟩
         replace H:(some (a0_0,y505,a0_2,a0_3,true)) = some (r1,r2,r3,r4,r5):=by first|(rw [hy505];with_reducible exact H)|(have H2_:=(Option.bind_some _ _).symm.trans H;rw [hy505];with_reducible exact H2_)|(have H2_:=(Option.bind_some _ _).symm.trans H;with_reducible exact H2_)|with_reducible exact H|(rw [hy505];exact H)|exact H
         have Ny505:=Am hy505
         clear hy505
         simp only [Option.some.injEq,Prod.mk.injEq] at H
         obtain ⟨rfl,rfl,rfl,rfl,rfl⟩:=H
         go_wp2_with (first|((with_reducible refine gate_dst (N:=42) rfl ?_);(try (refine gate_guard (by rfl) ?_;dsimp only));refine Kd.R_lit Kd.string _ 9 ?hg (N:=42) ?hd (xs:=([]:List ByteArray)) (inner:=[]) (ok:=fun _=>True) (okp:=fun _=>True) ?hr ?hp (fun _ hk=>hk) trivial (Below.refl _ _) (Nat.le_refl _) (by simp) ?_;(case hd=>rfl);(case hg=>rfl);(case hr=>(go_simp <;> rfl));(case hp=>exact (Reps.none _ _));intro v503 w31 ho32 hb hg_ hnew_;clear hg_ hnew_;(first|rw [← Ny502.out] at ho32|(simp only [Int.reduceToNat] at ho32;rw [← Ny502.out] at ho32));have n0_:=Am (Kd.R_lower ho32 (bU (by repeat (first|(with_reducible first|exact HB.out|apply bA|apply bN|apply bD|refine bS ?_ GE489.out|refine bS ?_ GE490.out)|exact HB.out))));have n1_:=Am (blk_below (bB BK489.out) hb);have n2_:=Am (blk_below (bB BK490.out) hb);have n3_:=Am (bT (by repeat (first|(with_reducible first|exact HB.out|apply bA|apply bN|apply bD|refine bS ?_ GE489.out|refine bS ?_ GE490.out)|exact HB.out)) hb);clear BK489 BK490 HB;have HO504:=n0_;have BK489:=n1_;have BK490:=n2_;have HB:=n3_;clear n0_ n1_ n2_ n3_ hb ho32;have hnb33:=NB489_490.out;have hnc33:=NB490_489.out;have hcz34_0:w31.cell? ⟨gb489,0,none⟩ = some (.string a0_0):=bM BK489.out 0 rfl;have hcz34_1:w31.cell? ⟨gb489,1,none⟩ = some (.slice A0_1 l0_1.length c0_1):=bM BK489.out 1 rfl;have hcz34_2:w31.cell? ⟨gb489,2,none⟩ = some (.bool a0_2):=bM BK489.out 2 rfl;have hcz34_3:w31.cell? ⟨gb489,3,none⟩ = some (.string a0_3):=bM BK489.out 3 rfl;have hfz34_0:=bZ BK489.out 0;have hfz34_1:=bZ BK489.out 1;have hfz34_2:=bZ BK489.out 2;have hfz34_3:=bZ BK489.out 3)|((with_reducible refine gate_builtin (b:=.append) (xs:=#[.tmp 42, .tmp 44]) rfl ?_);(try (refine gate_guard (by rfl) ?_;dsimp only));at_builtin;refine Kd.R_append_rows Kd.string (w0:=w) w.heap.size rfl (.tmp 42) (.tmp 44) 23 9 (.string ⟨#[]⟩) 16 rfl Tryd.underlying23 info9 rfl (by decide) (by omega) v503 y502 l0_1 _ _ _ (fun _=>True) (fun _=>False) rfl rfl ?aO ?aR (fun _ _ h=>h) (fun _ h=>h.elim) ?aF ?aB ?aS ?aL ?_;(case aR=>repeat (first|exact (Kd.C_below HR0_1.out HB.out)|(with_reducible refine bC ?_)));(case aB=>exact (by repeat (first|(with_reducible first|exact HB.out|apply bA|apply bN|apply bD|refine bS ?_ GE489.out|refine bS ?_ GE490.out)|exact HB.out)));(case aF=>exact (fun _ _=>trivial));(case aO=>exact (bR HO504.out));(case aS=>exact (bU (by repeat (first|(with_reducible first|exact HB.out|apply bA|apply bN|apply bD|refine bS ?_ GE489.out|refine bS ?_ GE490.out)|exact HB.out))));(case aL=>have:=LMc30.out;omega);intro v506 w35 ho hb hg hat;rw [← Ny505.out] at ho;have n0_:=Am (blk_grown (bB BK489.out) hg (Kd.R_ne HO504.out BK489.out (by decide)));have n1_:=Am (blk_grown (bB BK490.out) hg (Kd.R_ne HO504.out BK490.out (by decide)));have n2_:=Am (hb);have n3_:=Am (ho);clear BK489 BK490 HB HO504;have BK489:=n0_;have BK490:=n1_;have HB:=n2_;have HO507:=n3_;clear n0_ n1_ n2_ n3_ ho hb hg hat;obtain ⟨Ao36,co36,eo36⟩:=Kd.R_slice HO507.out;subst eo36;have hcz37_0:w35.cell? ⟨gb489,0,none⟩ = some (.string a0_0):=bM BK489.out 0 rfl;have hcz37_1:w35.cell? ⟨gb489,1,none⟩ = some (.slice A0_1 l0_1.length c0_1):=bM BK489.out 1 rfl;have hcz37_2:w35.cell? ⟨gb489,2,none⟩ = some (.bool a0_2):=bM BK489.out 2 rfl;have hcz37_3:w35.cell? ⟨gb489,3,none⟩ = some (.string a0_3):=bM BK489.out 3 rfl;have hfz37_0:=bZ BK489.out 0;have hfz37_1:=bZ BK489.out 1;have hfz37_2:=bZ BK489.out 2;have hfz37_3:=bZ BK489.out 3;have hcz38_0:w35.cell? ⟨gb490,0,none⟩ = some (.string (⟨#[]⟩:ByteArray)):=bM BK490.out 0 rfl;have hcz38_1:w35.cell? ⟨gb490,1,none⟩ = some (.slice none 0 0):=bM BK490.out 1 rfl;have hcz38_2:w35.cell? ⟨gb490,2,none⟩ = some (.bool false):=bM BK490.out 2 rfl;have hcz38_3:w35.cell? ⟨gb490,3,none⟩ = some (.string (⟨#[]⟩:ByteArray)):=bM BK490.out 3 rfl;have hfz38_0:=bZ BK490.out 0;have hfz38_1:=bZ BK490.out 1;have hfz38_2:=bZ BK490.out 2;have hfz38_3:=bZ BK490.out 3))
         refine bodyPost_ret (results_ct rfl _ _ gb490 25 #[.string a0_0, .slice Ao36 y505.length co36, .bool a0_2, .string a0_3] (0,0) _ rfl (by refine bB ?_;apply bP;refine bB ?_;refine blk_far ?_ NB490_489.out _;refine bB ?_;exact BK490.out) Tryd.underlying25 rfl (by kernel_rfl)) rfl ?_
         exact ⟨_,by first|rfl|(simp <;> rfl)|(simp [*] <;> rfl),by (with_reducible repeat (first|apply rA|apply rN|apply rD));exact Kd.R_mono (Kd.R_far (p:=⟨gb490,3,none⟩) (Kd.R_far (p:=⟨gb490,2,none⟩) (Kd.R_far (p:=⟨gb490,1,none⟩) (Kd.R_far (p:=⟨gb490,0,none⟩) (Kd.R_far (p:=⟨gb489,1,none⟩) (Kd.R_types (Kd.R_types HO507.out BK489.out (by decide)) BK490.out (by decide)) (fun _ hk=>hk.1.2) (.slice Ao36 y505.length co36)) (fun _ hk=>hk.2) (.string a0_0)) (fun _ hk=>hk.2) (.slice Ao36 y505.length co36)) (fun _ hk=>hk.2) (.bool a0_2)) (fun _ hk=>hk.2) (.string a0_3)) (fun _ hk=>trivial),by repeat (first|(with_reducible first|exact HB.out|apply bA|apply bN|apply bD|refine bS ?_ GE489.out|refine bS ?_ GE490.out)|exact HB.out)⟩
        ·rw [if_neg c30] at H
         exact absurd H (by simp)
       ·rw [if_neg c29] at H
        (try (have c29b0:t491.toList.isEmpty = false:=by simpa using c29))
        have c29b1:(t491.toList == ([]:List UInt8)) = false:=beq_eq_false_iff_ne.mpr c29
        have c29b2:(t491.toList != ([]:List UInt8)) = true:=bne_iff_ne.mpr c29
        by_cases c39:0 < (t491.size:Int)
        ·rw [if_pos c39] at H
         have c39b0:decide (0 < (t491.size:Int)) = true:=decide_eq_true c39
         have c39b1:decide (0 < t491.size) = true:=decide_eq_true (by omega)
         clear c39
         by_cases c41:(bt t491 0) = 47
         ·rw [if_pos c41] at H
          have c41b0:((bt t491 0) == 47) = true:=beq_iff_eq.mpr c41
          have c41b1:((bt t491 0) != 47) = false:=bne_eq_false_iff_eq.mpr c41
          clear c41
          replace H:=bI H
          obtain ⟨⟨t508,t509,t512,t513,t514⟩,A420,H⟩:=H
          replace H:(some (t508,t509,t512,t513,t514)) = some (r1,r2,r3,r4,r5):=H
          have A42:=Am A420
          clear A420
          simp only [Option.some.injEq,Prod.mk.injEq] at H
          obtain ⟨rfl,rfl,rfl,rfl,rfl⟩:=H
          have p40:0 ≤ (0:Int):=(by omega)
          have q40:0 < t491.size:=(by have:(0:Int) < (t491.size:Int):=oD (by assumption);omega)
          have hx40:∀ h:0 < t491.size,((t491[0]'h).toNat:Int) = bt t491 0:=bt_at t491 0
          clear p40
          have qi40:(0 < (t491.size:Int)) = True:=eq_true (oD (by assumption))
          replace q40:=eq_true q40
          have hnb43:=NB489_490.out
          have hnc43:=NB490_489.out
          have hcz44_0:wc.cell? ⟨gb489,0,none⟩ = some (.string a0_0):=bM BK489.out 0 rfl
          have hcz44_1:wc.cell? ⟨gb489,1,none⟩ = some (.slice A0_1 l0_1.length c0_1):=bM BK489.out 1 rfl
          have hcz44_2:wc.cell? ⟨gb489,2,none⟩ = some (.bool a0_2):=bM BK489.out 2 rfl
          have hcz44_3:wc.cell? ⟨gb489,3,none⟩ = some (.string a0_3):=bM BK489.out 3 rfl
          have hfz44_0:=bZ BK489.out 0
          have hfz44_1:=bZ BK489.out 1
          have hfz44_2:=bZ BK489.out 2
          have hfz44_3:=bZ BK489.out 3
          go_wp2_with (first|((with_reducible refine gate_callee (f:=34) rfl ?_);refine goesL_ (some 56) rfl rfl Tryd.func34 (by kernel_rfl) rfl #[.agg #[.string a0_0, .slice none 0 0, .bool false, .string (⟨#[]⟩:ByteArray)], .string t491] rfl (aE2 rfl rfl) ?_;(refine (spec_l1Way.calls kj17 a0_0 _ _ ([]:List ByteArray) false (⟨#[]⟩:ByteArray) t491 t508 t509 t512 t513 t514 _ ?side1 ?side2 A42.out).mono ?_);(case side1=>exact Kd.C_nil _ _);(case side2=>exact Nat.le_refl _);rintro e w45 ⟨v510,rfl,ho0,hb⟩;refine ⟨_,rfl,?_⟩;have n0_:=Am (Kd.R_lower ho0 (bU (by repeat (first|(with_reducible first|exact HB.out|apply bA|apply bN|apply bD|refine bS ?_ GE489.out|refine bS ?_ GE490.out)|exact HB.out))));have n1_:=Am (blk_below (bB BK489.out) hb);have n2_:=Am (blk_below (bB BK490.out) hb);have n3_:=Am (bT (by repeat (first|(with_reducible first|exact HB.out|apply bA|apply bN|apply bD|refine bS ?_ GE489.out|refine bS ?_ GE490.out)|exact HB.out)) hb);clear BK489 BK490 HB;have HO511:=n0_;have BK489:=n1_;have BK490:=n2_;have HB:=n3_;clear n0_ n1_ n2_ n3_;(try clear hb);(try clear ho0);have hcz46_0:w45.cell? ⟨gb490,0,none⟩ = some (.string (⟨#[]⟩:ByteArray)):=bM BK490.out 0 rfl;have hcz46_1:w45.cell? ⟨gb490,1,none⟩ = some (.slice none 0 0):=bM BK490.out 1 rfl;have hcz46_2:w45.cell? ⟨gb490,2,none⟩ = some (.bool false):=bM BK490.out 2 rfl;have hcz46_3:w45.cell? ⟨gb490,3,none⟩ = some (.string (⟨#[]⟩:ByteArray)):=bM BK490.out 3 rfl;have hfz46_0:=bZ BK490.out 0;have hfz46_1:=bZ BK490.out 1;have hfz46_2:=bZ BK490.out 2;have hfz46_3:=bZ BK490.out 3;obtain ⟨Ao47,co47,eo47⟩:=Kd.R_slice HO511.out;subst eo47))
          refine bodyPost_ret (results_ct rfl _ _ gb490 25 #[.string t508, .slice Ao47 t509.length co47, .bool t512, .string t513] (0,0) _ rfl (by refine bB ?_;apply bP;refine bB ?_;exact BK490.out) Tryd.underlying25 rfl (by kernel_rfl)) rfl ?_
          exact ⟨_,by first|rfl|(simp <;> rfl)|(simp [*] <;> rfl),by (with_reducible repeat (first|apply rA|apply rN|apply rD));exact Kd.R_mono (Kd.R_far (p:=⟨gb490,3,none⟩) (Kd.R_far (p:=⟨gb490,2,none⟩) (Kd.R_far (p:=⟨gb490,1,none⟩) (Kd.R_far (p:=⟨gb490,0,none⟩) (Kd.R_types HO511.out BK490.out (by decide)) (fun _ hk=>hk.2) (.string t508)) (fun _ hk=>hk.2) (.slice Ao47 t509.length co47)) (fun _ hk=>hk.2) (.bool t512)) (fun _ hk=>hk.2) (.string t513)) (fun _ hk=>trivial),by repeat (first|(with_reducible first|exact HB.out|apply bA|apply bN|apply bD|refine bS ?_ GE489.out|refine bS ?_ GE490.out)|exact HB.out)⟩
         ·rw [if_neg c41] at H
          have c41b0:((bt t491 0) == 47) = false:=beq_eq_false_iff_ne.mpr c41
          have c41b1:((bt t491 0) != 47) = true:=bne_iff_ne.mpr c41
          by_cases c49:(bt t491 0) = 63
          ·rw [if_pos c49] at H
           have c49b0:((bt t491 0) == 63) = true:=beq_iff_eq.mpr c49
           have c49b1:((bt t491 0) != 63) = false:=bne_eq_false_iff_eq.mpr c49
           clear c49
           replace H:=bI H
           obtain ⟨⟨t515,t516,t519,t520,t521⟩,A500,H⟩:=H
           replace H:(some (t515,t516,t519,t520,t521)) = some (r1,r2,r3,r4,r5):=H
           have A50:=Am A500
           clear A500
           simp only [Option.some.injEq,Prod.mk.injEq] at H
           obtain ⟨rfl,rfl,rfl,rfl,rfl⟩:=H
           have p40:0 ≤ (0:Int):=(by omega)
           have q40:0 < t491.size:=(by have:(0:Int) < (t491.size:Int):=oD (by assumption);omega)
           have hx40:∀ h:0 < t491.size,((t491[0]'h).toNat:Int) = bt t491 0:=bt_at t491 0
           clear p40
           have qi40:(0 < (t491.size:Int)) = True:=eq_true (oD (by assumption))
           replace q40:=eq_true q40
           have p48:0 ≤ (0:Int):=(by omega)
           have q48:0 < t491.size:=(by have:(0:Int) < (t491.size:Int):=oD (by assumption);omega)
           have hx48:∀ h:0 < t491.size,((t491[0]'h).toNat:Int) = bt t491 0:=bt_at t491 0
           clear p48
           have qi48:(0 < (t491.size:Int)) = True:=eq_true (oD (by assumption))
           replace q48:=eq_true q48
           have hnb51:=NB489_490.out
           have hnc51:=NB490_489.out
           have hcz52_0:wc.cell? ⟨gb489,0,none⟩ = some (.string a0_0):=bM BK489.out 0 rfl
           have hcz52_1:wc.cell? ⟨gb489,1,none⟩ = some (.slice A0_1 l0_1.length c0_1):=bM BK489.out 1 rfl
           have hcz52_2:wc.cell? ⟨gb489,2,none⟩ = some (.bool a0_2):=bM BK489.out 2 rfl
           have hcz52_3:wc.cell? ⟨gb489,3,none⟩ = some (.string a0_3):=bM BK489.out 3 rfl
           have hfz52_0:=bZ BK489.out 0
           have hfz52_1:=bZ BK489.out 1
           have hfz52_2:=bZ BK489.out 2
           have hfz52_3:=bZ BK489.out 3
           go_wp2_with (first|((with_reducible refine gate_callee (f:=34) rfl ?_);refine goesL_ (some 69) rfl rfl Tryd.func34 (by kernel_rfl) rfl #[.agg #[.string a0_0, .slice A0_1 l0_1.length c0_1, .bool false, .string (⟨#[]⟩:ByteArray)], .string t491] rfl (aE2 rfl rfl) ?_;(with_reducible refine (spec_l1Way.calls kj17 a0_0 _ _ l0_1 false (⟨#[]⟩:ByteArray) t491 t515 t516 t519 t520 t521 _ ?side1 ?side2 A50.out).mono ?_);(case side1=>repeat (first|exact (Kd.C_below HR0_1.out HB.out)|(with_reducible refine bC ?_)));(case side2=>exact HC0_1.out);rintro e w53 ⟨v517,rfl,ho0,hb⟩;refine ⟨_,rfl,?_⟩;have n0_:=Am (Kd.R_lower ho0 (bU (by repeat (first|(with_reducible first|exact HB.out|apply bA|apply bN|apply bD|refine bS ?_ GE489.out|refine bS ?_ GE490.out)|exact HB.out))));have n1_:=Am (blk_below (bB BK489.out) hb);have n2_:=Am (blk_below (bB BK490.out) hb);have n3_:=Am (bT (by repeat (first|(with_reducible first|exact HB.out|apply bA|apply bN|apply bD|refine bS ?_ GE489.out|refine bS ?_ GE490.out)|exact HB.out)) hb);clear BK489 BK490 HB;have HO518:=n0_;have BK489:=n1_;have BK490:=n2_;have HB:=n3_;clear n0_ n1_ n2_ n3_;(try clear hb);(try clear ho0);have hcz54_0:w53.cell? ⟨gb490,0,none⟩ = some (.string (⟨#[]⟩:ByteArray)):=bM BK490.out 0 rfl;have hcz54_1:w53.cell? ⟨gb490,1,none⟩ = some (.slice none 0 0):=bM BK490.out 1 rfl;have hcz54_2:w53.cell? ⟨gb490,2,none⟩ = some (.bool false):=bM BK490.out 2 rfl;have hcz54_3:w53.cell? ⟨gb490,3,none⟩ = some (.string (⟨#[]⟩:ByteArray)):=bM BK490.out 3 rfl;have hfz54_0:=bZ BK490.out 0;have hfz54_1:=bZ BK490.out 1;have hfz54_2:=bZ BK490.out 2;have hfz54_3:=bZ BK490.out 3;obtain ⟨Ao55,co55,eo55⟩:=Kd.R_slice HO518.out;subst eo55))
           refine bodyPost_ret (results_ct rfl _ _ gb490 25 #[.string t515, .slice Ao55 t516.length co55, .bool t519, .string t520] (0,0) _ rfl (by refine bB ?_;apply bP;refine bB ?_;exact BK490.out) Tryd.underlying25 rfl (by kernel_rfl)) rfl ?_
           exact ⟨_,by first|rfl|(simp <;> rfl)|(simp [*] <;> rfl),by (with_reducible repeat (first|apply rA|apply rN|apply rD));exact Kd.R_mono (Kd.R_far (p:=⟨gb490,3,none⟩) (Kd.R_far (p:=⟨gb490,2,none⟩) (Kd.R_far (p:=⟨gb490,1,none⟩) (Kd.R_far (p:=⟨gb490,0,none⟩) (Kd.R_types HO518.out BK490.out (by decide)) (fun _ hk=>hk.2) (.string t515)) (fun _ hk=>hk.2) (.slice Ao55 t516.length co55)) (fun _ hk=>hk.2) (.bool t519)) (fun _ hk=>hk.2) (.string t520)) (fun _ hk=>trivial),by repeat (first|(with_reducible first|exact HB.out|apply bA|apply bN|apply bD|refine bS ?_ GE489.out|refine bS ?_ GE490.out)|exact HB.out)⟩
          ·rw [if_neg c49] at H
           have c49b0:((bt t491 0) == 63) = false:=beq_eq_false_iff_ne.mpr c49
           have c49b1:((bt t491 0) != 63) = true:=bne_iff_ne.mpr c49
           replace H:=bI H
           obtain ⟨⟨t522,t523,t526,t527⟩,A560,H⟩:=H
           replace H:((spec_l1Way.f kj17 t522 t523 t526 t527 t491).bind fun bt528=>(some (bt528.1,bt528.2.1,bt528.2.2.1,bt528.2.2.2.1,bt528.2.2.2.2))) = some (r1,r2,r3,r4,r5):=H
           have A56:=Am A560
           clear A560
           replace H:=bI H
           obtain ⟨⟨t528,t529,t532,t533,t534⟩,A570,H⟩:=H
           replace H:(some (t528,t529,t532,t533,t534)) = some (r1,r2,r3,r4,r5):=H
           have A57:=Am A570
           clear A570
           simp only [Option.some.injEq,Prod.mk.injEq] at H
           obtain ⟨rfl,rfl,rfl,rfl,rfl⟩:=H
           have p40:0 ≤ (0:Int):=(by omega)
           have q40:0 < t491.size:=(by have:(0:Int) < (t491.size:Int):=oD (by assumption);omega)
           have hx40:∀ h:0 < t491.size,((t491[0]'h).toNat:Int) = bt t491 0:=bt_at t491 0
           clear p40
           have qi40:(0 < (t491.size:Int)) = True:=eq_true (oD (by assumption))
           replace q40:=eq_true q40
           have p48:0 ≤ (0:Int):=(by omega)
           have q48:0 < t491.size:=(by have:(0:Int) < (t491.size:Int):=oD (by assumption);omega)
           have hx48:∀ h:0 < t491.size,((t491[0]'h).toNat:Int) = bt t491 0:=bt_at t491 0
           clear p48
           have qi48:(0 < (t491.size:Int)) = True:=eq_true (oD (by assumption))
           replace q48:=eq_true q48
           have hnb58:=NB489_490.out
           have hnc58:=NB490_489.out
           have hcz59_0:wc.cell? ⟨gb489,0,none⟩ = some (.string a0_0):=bM BK489.out 0 rfl
           have hcz59_1:wc.cell? ⟨gb489,1,none⟩ = some (.slice A0_1 l0_1.length c0_1):=bM BK489.out 1 rfl
           have hcz59_2:wc.cell? ⟨gb489,2,none⟩ = some (.bool a0_2):=bM BK489.out 2 rfl
           have hcz59_3:wc.cell? ⟨gb489,3,none⟩ = some (.string a0_3):=bM BK489.out 3 rfl
           have hfz59_0:=bZ BK489.out 0
           have hfz59_1:=bZ BK489.out 1
           have hfz59_2:=bZ BK489.out 2
           have hfz59_3:=bZ BK489.out 3
           go_wp2_with (first|((with_reducible refine gate_callee (f:=35) rfl ?_);refine goesL_ (some 73) rfl rfl Tryd.func35 (by kernel_rfl) rfl #[.agg #[.string a0_0, .slice A0_1 l0_1.length c0_1, .bool a0_2, .string a0_3]] rfl (aE1 rfl) ?_;(with_reducible refine (spec_l1Up.calls a0_0 _ _ l0_1 a0_2 a0_3 t522 t523 t526 t527 _ ?side1 ?side2 A56.out).mono ?_);(case side1=>repeat (first|exact (Kd.C_below HR0_1.out HB.out)|(with_reducible refine bC ?_)));(case side2=>exact HC0_1.out);rintro e w60 ⟨v524,rfl,ho0,hb⟩;refine ⟨_,rfl,?_⟩;have n0_:=Am (Kd.R_lower ho0 (bU (by repeat (first|(with_reducible first|exact HB.out|apply bA|apply bN|apply bD|refine bS ?_ GE489.out|refine bS ?_ GE490.out)|exact HB.out))));have n1_:=Am (blk_below (bB BK489.out) hb);have n2_:=Am (blk_below (bB BK490.out) hb);have n3_:=Am (bT (by repeat (first|(with_reducible first|exact HB.out|apply bA|apply bN|apply bD|refine bS ?_ GE489.out|refine bS ?_ GE490.out)|exact HB.out)) hb);clear BK489 BK490 HB;have HO525:=n0_;have BK489:=n1_;have BK490:=n2_;have HB:=n3_;clear n0_ n1_ n2_ n3_;(try clear hb);(try clear ho0);obtain ⟨Ao61,co61,eo61⟩:=Kd.R_slice HO525.out;subst eo61)|((with_reducible refine gate_callee (f:=34) rfl ?_);refine goesL_ (some 75) rfl rfl Tryd.func34 (by kernel_rfl) rfl #[.agg #[.string t522, .slice Ao61 t523.length co61, .bool t526, .string t527], .string t491] rfl (aE2 rfl rfl) ?_;(with_reducible refine (spec_l1Way.calls kj17 t522 _ _ t523 t526 t527 t491 t528 t529 t532 t533 t534 _ ?side1 ?side2 A57.out).mono ?_);(case side1=>repeat (first|exact (Kd.R_reads' HO525.out).2.2|(with_reducible refine bC ?_)));(case side2=>exact (Kd.R_reads' HO525.out).2.1);rintro e w62 ⟨v530,rfl,ho0,hb⟩;refine ⟨_,rfl,?_⟩;have n0_:=Am (Kd.R_elder' (bR HO525.out) (Kd.R_base ho0) hb);have n1_:=Am (Kd.R_lower (Kd.R_new' ho0 (Kd.R_lt (bR HO525.out))) (bU (by repeat (first|(with_reducible first|exact HB.out|apply bA|apply bN|apply bD|refine bS ?_ GE489.out|refine bS ?_ GE490.out)|exact HB.out))));have n2_:=Am (blk_below (bB BK489.out) hb);have n3_:=Am (blk_below (bB BK490.out) hb);have n4_:=Am (bT (by repeat (first|(with_reducible first|exact HB.out|apply bA|apply bN|apply bD|refine bS ?_ GE489.out|refine bS ?_ GE490.out)|exact HB.out)) hb);clear HO525 BK489 BK490 HB;have HO525:=n0_;have HO531:=n1_;have BK489:=n2_;have BK490:=n3_;have HB:=n4_;clear n0_ n1_ n2_ n3_ n4_;(try clear hb);(try clear ho0);have hcz63_0:w62.cell? ⟨gb490,0,none⟩ = some (.string (⟨#[]⟩:ByteArray)):=bM BK490.out 0 rfl;have hcz63_1:w62.cell? ⟨gb490,1,none⟩ = some (.slice none 0 0):=bM BK490.out 1 rfl;have hcz63_2:w62.cell? ⟨gb490,2,none⟩ = some (.bool false):=bM BK490.out 2 rfl;have hcz63_3:w62.cell? ⟨gb490,3,none⟩ = some (.string (⟨#[]⟩:ByteArray)):=bM BK490.out 3 rfl;have hfz63_0:=bZ BK490.out 0;have hfz63_1:=bZ BK490.out 1;have hfz63_2:=bZ BK490.out 2;have hfz63_3:=bZ BK490.out 3;obtain ⟨Ao64,co64,eo64⟩:=Kd.R_slice HO531.out;subst eo64))
           refine bodyPost_ret (results_ct rfl _ _ gb490 25 #[.string t528, .slice Ao64 t529.length co64, .bool t532, .string t533] (0,0) _ rfl (by refine bB ?_;apply bP;refine bB ?_;exact BK490.out) Tryd.underlying25 rfl (by kernel_rfl)) rfl ?_
           exact ⟨_,by first|rfl|(simp <;> rfl)|(simp [*] <;> rfl),by (with_reducible repeat (first|apply rA|apply rN|apply rD));exact Kd.R_mono (Kd.R_far (p:=⟨gb490,3,none⟩) (Kd.R_far (p:=⟨gb490,2,none⟩) (Kd.R_far (p:=⟨gb490,1,none⟩) (Kd.R_far (p:=⟨gb490,0,none⟩) (Kd.R_types HO531.out BK490.out (by decide)) (fun _ hk=>hk.2) (.string t528)) (fun _ hk=>hk.2) (.slice Ao64 t529.length co64)) (fun _ hk=>hk.2) (.bool t532)) (fun _ hk=>hk.2) (.string t533)) (fun _ hk=>trivial),by repeat (first|(with_reducible first|exact HB.out|apply bA|apply bN|apply bD|refine bS ?_ GE489.out|refine bS ?_ GE490.out)|exact HB.out)⟩
        ·rw [if_neg c39] at H
         exact absurd H (by simp)

/-! ### strings_HasPrefix: function 37 -/
def strings_HasPrefix.f (a0:ByteArray) (a1:ByteArray):Option (Bool):=(stringslite_HasPrefix.f a0 a1).bind fun t535=>(some t535)
theorem strings_HasPrefix.calls (a0:ByteArray) (a1:ByteArray) (r:Bool) (w:World) (h:strings_HasPrefix.f a0 a1 = some r) :
  Calls Tryd.prog 37 #[.string a0, .string a1] w fun e w'=>e = .returned (.bool r) ∧ Drawn0 w w':=by
 have H:((stringslite_HasPrefix.f a0 a1).bind fun t535=>(some t535)) = some r:=h
 clear h
 replace H:=bI H
 obtain ⟨t535,A30,H⟩:=H
 replace H:(some t535) = some r:=H
 have A3:=Am A30
 clear A30
 obtain rfl:=Option.some.inj H
 go_enter Tryd.func37,Tryd.ntmps37
 go_wp2_with (first|((with_reducible refine gate_callee (f:=63) rfl ?_);refine goesL_ (some 7) rfl rfl Tryd.func63 (by kernel_rfl) rfl #[.string a0, .string a1] rfl (aE2 rfl rfl) ?_;(with_reducible refine (stringslite_HasPrefix.calls a0 a1 t535 _ A3.out).mono ?_);rintro e w' ⟨rfl,⟨nd,rfl⟩⟩;refine ⟨_,rfl,?_⟩))
 go_ret
 exact ⟨by first|rfl|(simp;done)|(simp only [i64_w,i32_w] <;> rfl)|(simp [*];done)|(simp [emp_bne,emp_beq];done),by repeat (first|exact Drawn0.refl _|apply Drawn0.step)⟩

/-! ### impl_AddrJoin: function 13 -/
def impl_AddrJoin.j0:Nat → ByteArray → Bool → ByteArray → List ByteArray → Bool → ByteArray → Option (ByteArray × List ByteArray × Bool × ByteArray × Bool)
 | 0,_,_,_,_,_,_=>none
 | k + 1,x1,x16,x537000,x537001,x537002,x537003=>if x16 = true then (some ((⟨#[]⟩:ByteArray),([]:List ByteArray),false,(⟨#[]⟩:ByteArray),false)) else ((strings_Cut.f x1 (⟨#[35]⟩:ByteArray)).bind fun bt539=>((strings_HasPrefix.f bt539.1 (⟨#[47,47]⟩:ByteArray)).bind fun t542=>(if t542 = true then ((impl_readWhole.f k bt539.1).bind fun bt543=>(some (bt543.1,bt543.2.1,bt543.2.2.1,bt543.2.2.2.1,bt543.2.2.2.2))) else (if bt539.1.toList = ([]:List UInt8) then ((slices_Clone_string_string.f x537001).bind fun t550=>(some (x537000,t550,x537002,x537003,true))) else (if 0 < (bt539.1.size:Int) then (if (bt bt539.1 0) = 47 then ((impl_readWay.f k x537000 ([]:List ByteArray) bt539.1).bind fun bt553=>(some (bt553.1,bt553.2.1,bt553.2.2.1,bt553.2.2.2.1,bt553.2.2.2.2))) else (if (bt bt539.1 0) = 63 then ((impl_readWay.f k x537000 x537001 bt539.1).bind fun bt560=>(some (bt560.1,bt560.2.1,bt560.2.2.1,bt560.2.2.2.1,bt560.2.2.2.2))) else (if 0 ≤ (mx (wrap64 ((x537001.length:Int) - 1)) 0) then (if (mx (wrap64 ((x537001.length:Int) - 1)) 0) ≤ (x537001.length:Int) then ((impl_readWay.f k x537000 (x537001.take ((mx (wrap64 ((x537001.length:Int) - 1)) 0):Int).toNat) bt539.1).bind fun bt568=>(some (bt568.1,bt568.2.1,bt568.2.2.1,bt568.2.2.2.1,bt568.2.2.2.2))) else (none)) else (none)))) else (none))))))
def impl_AddrJoin.f (k:Nat) (a0_0:ByteArray) (l0_1:List ByteArray) (a0_2:Bool) (a0_3:ByteArray) (a1:ByteArray):Option (ByteArray × List ByteArray × Bool × ByteArray × Bool):=if (a1.size:Int) > 60 then (impl_AddrJoin.j0 k a1 true a0_0 l0_1 a0_2 a0_3) else ((impl_AddrOk.f k a0_0 l0_1 a0_2 a0_3).bind fun t538=>(impl_AddrJoin.j0 k a1 (!t538) a0_0 l0_1 a0_2 a0_3))
theorem impl_AddrJoin.mono_l:∀ k,(∀ y0 y1 y2 y3 y4 y5,LeO (impl_AddrJoin.j0 k y0 y1 y2 y3 y4 y5) (impl_AddrJoin.j0 (k + 1) y0 y1 y2 y3 y4 y5))
 | 0=>fun _ _ _ _ _ _ r h=>by simp [impl_AddrJoin.j0] at h
 | k + 1=>by
  have ih0:=impl_AddrJoin.mono_l k
  ·intro y0 y1 y2 y3 y4 y5
   unfold impl_AddrJoin.j0
   repeat' first
   | (with_reducible apply ih0)
   | (with_reducible apply impl_AddrOk.mono)
   | (with_reducible apply impl_readWay.mono)
   | (with_reducible apply impl_readWhole.mono)
   | (with_reducible exact LeO.refl _)
   | (with_reducible exact LeO.none _)
   | (with_reducible refine LeO.ite ?_ ?_)
   | (with_reducible refine LeO.bind ?_ (fun _=>?_))
   | exact ih0 _ _ _ _ _ _
   | exact impl_AddrOk.mono _ _ _ _ _
   | exact impl_readWay.mono _ _ _ _
   | exact impl_readWhole.mono _ _
   | exact LeO.none _
   | refine LeO.ite ?_ ?_
   | refine LeO.bind ?_ (fun _=>?_)
theorem impl_AddrJoin.mono:∀ a0 a1 a2 a3 a4 k,LeO (impl_AddrJoin.f k a0 a1 a2 a3 a4) (impl_AddrJoin.f (k + 1) a0 a1 a2 a3 a4):=by
 intro a0 a1 a2 a3 a4 k
 have ih0:=impl_AddrJoin.mono_l k
 unfold impl_AddrJoin.f
 repeat' first
   | (with_reducible apply ih0)
   | (with_reducible apply impl_AddrOk.mono)
   | (with_reducible apply impl_readWay.mono)
   | (with_reducible apply impl_readWhole.mono)
   | (with_reducible exact LeO.refl _)
   | (with_reducible exact LeO.none _)
   | (with_reducible refine LeO.ite ?_ ?_)
   | (with_reducible refine LeO.bind ?_ (fun _=>?_))
   | exact ih0 _ _ _ _ _ _
   | exact impl_AddrOk.mono _ _ _ _ _
   | exact impl_readWay.mono _ _ _ _
   | exact impl_readWhole.mono _ _
   | exact LeO.none _
   | refine LeO.ite ?_ ?_
   | refine LeO.bind ?_ (fun _=>?_)
def impl_AddrJoin.T13:Bool × List (List Nat × List Nat):=(true,[([],[]),([0],[0]),([],[]),([2],[2]),([],[]),([4],[4]),([5],[5]),([6],[6]),([7],[7]),([3,8],[3,8]),([],[]),([1,9,10],[1,9,10]),([11],[11]),([11],[11]),([12,11,0,1,2,3,4,5,6,7,8,9,10,11,12,13],[12]),([13,14,0,1,2,3,4,5,6,7,8,9,10,11,12,13,14],[13])])
def impl_AddrJoin.B13:List Nat:=[0,1,0,4,0,16,48,112,240,508,0,2047,4095,4095,16383,32767]
theorem impl_AddrJoin.tab13:rtab .any (opsOf Tryd.f13 13) = impl_AddrJoin.T13:=by kernel_rfl
theorem impl_AddrJoin.bits13:waitsOk impl_AddrJoin.T13.2 impl_AddrJoin.B13 = true:=by kernel_rfl
theorem impl_AddrJoin.calls (k:Nat) (a0_0:ByteArray) (A0_1:Option Addr) (c0_1:Nat) (l0_1:List ByteArray) (a0_2:Bool) (a0_3:ByteArray) (a1:ByteArray) (r1:ByteArray) (r2:List ByteArray) (r3:Bool) (r4:ByteArray) (r5:Bool) (w:World) (hr0_1:Kd.C Kd.string w A0_1 l0_1.length l0_1) (hc0_1:l0_1.length ≤ c0_1) (h:impl_AddrJoin.f k a0_0 l0_1 a0_2 a0_3 a1 = some (r1,r2,r3,r4,r5)) :
  Calls Tryd.prog 13 #[.agg #[.string a0_0, .slice A0_1 l0_1.length c0_1, .bool a0_2, .string a0_3], .string a1] w fun e w'=>∃ v1_:Value,e = .returned (.tuple #[.agg #[.string r1,v1_, .bool r3, .string r4], .bool r5]) ∧ Kd.R Kd.string 9 w' w.heap.size (fun _=>True) v1_ r2 ∧ Below w.heap.size w w':=by
 have hu25:=Tryd.underlying25
 have HR0_1:=Am hr0_1
 have HC0_1:=Am hc0_1
 clear hr0_1 hc0_1
 have HB:=Am (Below.refl w.heap.size w)
 have H:(if (a1.size:Int) > 60 then (impl_AddrJoin.j0 k a1 true a0_0 l0_1 a0_2 a0_3) else ((impl_AddrOk.f k a0_0 l0_1 a0_2 a0_3).bind fun t538=>(impl_AddrJoin.j0 k a1 (!t538) a0_0 l0_1 a0_2 a0_3))) = some (r1,r2,r3,r4,r5):=h
 clear h
 have HC3:=Am H
 clear H
 go_enter Tryd.func13,Tryd.ntmps13
 go_upto_region 1 with (first|((with_reducible refine gate_dst (N:=2) rfl ?_);refine box_event ?hg (N:=2) ?hd (cs:=#[.string a0_0, .slice A0_1 l0_1.length c0_1, .bool a0_2, .string a0_3]) (t:=25) ?hr ?_;(case hd=>rfl);(case hg=>rfl);(case hr=>(go_simp <;> rfl));intro gb536 hg w4 hbox hb;have n0_:=Am (bT (by repeat (first|(with_reducible first|exact HB.out|apply bA|apply bN|apply bD)|exact HB.out)) hb);have n1_:=Am (hbox);have n2_:=Am ((by rw [hg];exact (bU (by repeat (first|(with_reducible first|exact HB.out|apply bA|apply bN|apply bD)|exact HB.out))):w.heap.size ≤ gb536));have n3_:=n2_;clear HB;have HB:=n0_;have BK536:=n1_;have GW536:=n2_;have GE536:=n3_;clear n0_ n1_ n2_ n3_ hb hbox hg)|((with_reducible refine gate_dst (N:=4) rfl ?_);refine box_event ?hg (N:=4) ?hd (cs:=#[.string (⟨#[]⟩:ByteArray), .slice none 0 0, .bool false, .string (⟨#[]⟩:ByteArray)]) (t:=25) ?hr ?_;(case hd=>rfl);(case hg=>rfl);(case hr=>(go_simp <;> rfl));intro gb537 hg w5 hbox hb;have n0_:=Am (blk_below (bB BK536.out) hb);have n1_:=Am (bT (by repeat (first|(with_reducible first|exact HB.out|apply bA|apply bN|apply bD|refine bS ?_ GE536.out)|exact HB.out)) hb);have n2_:=Am (hbox);have n3_:=Am ((by rw [hg];exact (bU (by repeat (first|(with_reducible first|exact HB.out|apply bA|apply bN|apply bD|refine bS ?_ GE536.out)|exact HB.out))):w.heap.size ≤ gb537));have n4_:=n3_;have n5_:=Am ((by rw [hg];exact Nat.ne_of_lt (blk_lt (bB BK536.out)):gb536 ≠ gb537));have n6_:=Am ((by rw [hg];exact Nat.ne_of_gt (blk_lt (bB BK536.out)):gb537 ≠ gb536));clear BK536 HB;have BK536:=n0_;have HB:=n1_;have BK537:=n2_;have GW537:=n3_;have GE537:=n4_;have NB536_537:=n5_;have NB537_536:=n6_;clear n0_ n1_ n2_ n3_ n4_ n5_ n6_ hb hbox hg))
 (try simp only [Act.put,List.setIfInBounds_toArray,List.set_cons_zero,List.set_cons_succ])
 go_cut [16] (fun v16 wc=>∃ (kq:Nat) (x16_2:Bool),v16 = .bool x16_2 ∧ Aside0 (impl_AddrJoin.j0 kq a1 x16_2 a0_0 l0_1 a0_2 a0_3 = some (r1,r2,r3,r4,r5)) ∧ Aside0 (kq ≤ k) ∧ Aside0 (wc.heap[gb536]? = some (.cells #[.string a0_0,(.slice A0_1 l0_1.length c0_1), .bool a0_2, .string a0_3] 25 (0,0))) ∧ Aside0 (wc.heap[gb537]? = some (.cells #[.string (⟨#[]⟩:ByteArray),(.slice none 0 0), .bool false, .string (⟨#[]⟩:ByteArray)] 25 (0,0))) ∧ Aside0 (Below w.heap.size w wc))
 case first =>
  have H:=HC3.out
  clear HC3
  by_cases c6:(a1.size:Int) > 60
  ·rw [if_pos c6] at H
   have c6b0:decide (60 < (a1.size:Int)) = true:=decide_eq_true c6
   have c6b1:decide (60 < a1.size) = true:=decide_eq_true (by omega)
   clear c6
   (first|rw [c6b0]|(simp only [i64_w,i32_w];rw [c6b0])|skip)
   have H':=Am H
   clear H
   go_wp2
   go_meet
   case rel=>exact ⟨_,(true),(by first|rfl|(simp;done)|(simp only [i64_w,i32_w] <;> rfl)|(simp [*];done)|(simp [emp_bne,emp_beq];done)),H',⟨by first|omega|exact Nat.le_refl _⟩,⟨by refine bB ?_;exact BK536.out⟩,⟨by refine bB ?_;exact BK537.out⟩,⟨by repeat (first|(with_reducible first|exact HB.out|apply bA|apply bN|apply bD|refine bS ?_ GE536.out|refine bS ?_ GE537.out)|exact HB.out)⟩⟩
  ·rw [if_neg c6] at H
   have c6b0:decide (60 < (a1.size:Int)) = false:=decide_eq_false c6
   have c6b1:decide (60 < a1.size) = false:=decide_eq_false (by omega)
   clear c6
   (first|rw [c6b0]|(simp only [i64_w,i32_w];rw [c6b0])|skip)
   replace H:=bI H
   obtain ⟨t538,A70,H⟩:=H
   replace H:(impl_AddrJoin.j0 k a1 (!t538) a0_0 l0_1 a0_2 a0_3) = some (r1,r2,r3,r4,r5):=H
   have A7:=Am A70
   clear A70
   have H':=Am H
   clear H
   have hnb8:=NB536_537.out
   have hnc8:=NB537_536.out
   have hcz9_0:w5.cell? ⟨gb536,0,none⟩ = some (.string a0_0):=bM BK536.out 0 rfl
   have hcz9_1:w5.cell? ⟨gb536,1,none⟩ = some (.slice A0_1 l0_1.length c0_1):=bM BK536.out 1 rfl
   have hcz9_2:w5.cell? ⟨gb536,2,none⟩ = some (.bool a0_2):=bM BK536.out 2 rfl
   have hcz9_3:w5.cell? ⟨gb536,3,none⟩ = some (.string a0_3):=bM BK536.out 3 rfl
   have hfz9_0:=bZ BK536.out 0
   have hfz9_1:=bZ BK536.out 1
   have hfz9_2:=bZ BK536.out 2
   have hfz9_3:=bZ BK536.out 3
   go_wp2_with (first|(go_at_call 28;(with_reducible refine (impl_AddrOk.calls k a0_0 _ _ l0_1 a0_2 a0_3 t538 _ ?side1 ?side2 A7.out).mono ?_);(case side1=>repeat (first|exact (Kd.C_below HR0_1.out HB.out)|(with_reducible refine bC ?_)));(case side2=>exact HC0_1.out);rintro e w10 ⟨rfl,hb⟩;have n0_:=Am (blk_below (bB BK536.out) hb);have n1_:=Am (blk_below (bB BK537.out) hb);have n2_:=Am (bT (by repeat (first|(with_reducible first|exact HB.out|apply bA|apply bN|apply bD|refine bS ?_ GE536.out|refine bS ?_ GE537.out)|exact HB.out)) hb);clear BK536 BK537 HB;have BK536:=n0_;have BK537:=n1_;have HB:=n2_;clear n0_ n1_ n2_;(try clear hb)))
   go_meet
   case rel=>exact ⟨_,(!t538),(by first|rfl|(simp;done)|(simp only [i64_w,i32_w] <;> rfl)|(simp [*];done)|(simp [emp_bne,emp_beq];done)),H',⟨by first|omega|exact Nat.le_refl _⟩,⟨by refine bB ?_;exact BK536.out⟩,⟨by refine bB ?_;exact BK537.out⟩,⟨by repeat (first|(with_reducible first|exact HB.out|apply bA|apply bN|apply bD|refine bS ?_ GE536.out|refine bS ?_ GE537.out)|exact HB.out)⟩⟩
 case rest =>
  clear HC3
  try clear c1
  try clear p2
  try clear c6
  try clear c6b0
  try clear c6b1
  try clear c8
  try clear hcz9_0
  try clear hcz9_1
  try clear hcz9_2
  try clear hcz9_3
  try clear hfz9_0
  try clear hfz9_1
  try clear hfz9_2
  try clear hfz9_3
  obtain ⟨kq,x16_2,rfl,HA,HJ2,BK536,BK537,HB⟩:=hcut
  cases kq with
  | zero=>exact absurd HA.out (by simp [impl_AddrJoin.j0])
  | succ kj2 =>
   have H:=HA.out
   clear HA
   simp only [impl_AddrJoin.j0] at H
   by_cases c11:x16_2 = true
   ·subst c11
    have H1:(some ((⟨#[]⟩:ByteArray),([]:List ByteArray),false,(⟨#[]⟩:ByteArray),false)) = some (r1,r2,r3,r4,r5):=by rw [if_pos rfl] at H;exact H
    clear H
    have H:=H1
    clear H1
    simp only [Option.some.injEq,Prod.mk.injEq] at H
    obtain ⟨rfl,rfl,rfl,rfl,rfl⟩:=H
    have hnb12:=NB537_536.out
    have hnc12:=NB536_537.out
    have hcz13_0:wc.cell? ⟨gb537,0,none⟩ = some (.string (⟨#[]⟩:ByteArray)):=bM BK537.out 0 rfl
    have hcz13_1:wc.cell? ⟨gb537,1,none⟩ = some (.slice none 0 0):=bM BK537.out 1 rfl
    have hcz13_2:wc.cell? ⟨gb537,2,none⟩ = some (.bool false):=bM BK537.out 2 rfl
    have hcz13_3:wc.cell? ⟨gb537,3,none⟩ = some (.string (⟨#[]⟩:ByteArray)):=bM BK537.out 3 rfl
    have hfz13_0:=bZ BK537.out 0
    have hfz13_1:=bZ BK537.out 1
    have hfz13_2:=bZ BK537.out 2
    have hfz13_3:=bZ BK537.out 3
    go_wp2
    refine bodyPost_ret (results_ct rfl _ _ gb537 25 #[.string (⟨#[]⟩:ByteArray), .slice none 0 0, .bool false, .string (⟨#[]⟩:ByteArray)] (0,0) _ rfl (by refine bB ?_;apply bP;refine bB ?_;exact BK537.out) Tryd.underlying25 rfl (by kernel_rfl)) rfl ?_
    exact ⟨_,by first|rfl|(simp <;> rfl)|(simp [*] <;> rfl),by first|exact Kd.R_nil _ _ _ _ _|exact Kd.N_nil _ _ _ _ _|exact Kd.V_nil _ _ _ _ _|exact Kd.Q_nil _ _ _ _ _|exact Kd.S_nil _ _ _ _ _,by repeat (first|(with_reducible first|exact HB.out|apply bA|apply bN|apply bD|refine bS ?_ GE536.out|refine bS ?_ GE537.out)|exact HB.out)⟩
   ·replace c11:=Bool.eq_false_iff.mpr c11
    subst c11
    have H1:((strings_Cut.f a1 (⟨#[35]⟩:ByteArray)).bind fun bt539=>((strings_HasPrefix.f bt539.1 (⟨#[47,47]⟩:ByteArray)).bind fun t542=>(if t542 = true then ((impl_readWhole.f kj2 bt539.1).bind fun bt543=>(some (bt543.1,bt543.2.1,bt543.2.2.1,bt543.2.2.2.1,bt543.2.2.2.2))) else (if bt539.1.toList = ([]:List UInt8) then ((slices_Clone_string_string.f l0_1).bind fun t550=>(some (a0_0,t550,a0_2,a0_3,true))) else (if 0 < (bt539.1.size:Int) then (if (bt bt539.1 0) = 47 then ((impl_readWay.f kj2 a0_0 ([]:List ByteArray) bt539.1).bind fun bt553=>(some (bt553.1,bt553.2.1,bt553.2.2.1,bt553.2.2.2.1,bt553.2.2.2.2))) else (if (bt bt539.1 0) = 63 then ((impl_readWay.f kj2 a0_0 l0_1 bt539.1).bind fun bt560=>(some (bt560.1,bt560.2.1,bt560.2.2.1,bt560.2.2.2.1,bt560.2.2.2.2))) else (if 0 ≤ (mx (wrap64 ((l0_1.length:Int) - 1)) 0) then (if (mx (wrap64 ((l0_1.length:Int) - 1)) 0) ≤ (l0_1.length:Int) then ((impl_readWay.f kj2 a0_0 (l0_1.take ((mx (wrap64 ((l0_1.length:Int) - 1)) 0):Int).toNat) bt539.1).bind fun bt568=>(some (bt568.1,bt568.2.1,bt568.2.2.1,bt568.2.2.2.1,bt568.2.2.2.2))) else (none)) else (none)))) else (none)))))) = some (r1,r2,r3,r4,r5):=by rw [if_neg (show ¬ (false = true) by decide)] at H;exact H
    clear H
    have H:=H1
    clear H1
    replace H:=bI H
    obtain ⟨⟨t539,t540,t541⟩,A140,H⟩:=H
    replace H:((strings_HasPrefix.f t539 (⟨#[47,47]⟩:ByteArray)).bind fun t542=>(if t542 = true then ((impl_readWhole.f kj2 t539).bind fun bt543=>(some (bt543.1,bt543.2.1,bt543.2.2.1,bt543.2.2.2.1,bt543.2.2.2.2))) else (if t539.toList = ([]:List UInt8) then ((slices_Clone_string_string.f l0_1).bind fun t550=>(some (a0_0,t550,a0_2,a0_3,true))) else (if 0 < (t539.size:Int) then (if (bt t539 0) = 47 then ((impl_readWay.f kj2 a0_0 ([]:List ByteArray) t539).bind fun bt553=>(some (bt553.1,bt553.2.1,bt553.2.2.1,bt553.2.2.2.1,bt553.2.2.2.2))) else (if (bt t539 0) = 63 then ((impl_readWay.f kj2 a0_0 l0_1 t539).bind fun bt560=>(some (bt560.1,bt560.2.1,bt560.2.2.1,bt560.2.2.2.1,bt560.2.2.2.2))) else (if 0 ≤ (mx (wrap64 ((l0_1.length:Int) - 1)) 0) then (if (mx (wrap64 ((l0_1.length:Int) - 1)) 0) ≤ (l0_1.length:Int) then ((impl_readWay.f kj2 a0_0 (l0_1.take ((mx (wrap64 ((l0_1.length:Int) - 1)) 0):Int).toNat) t539).bind fun bt568=>(some (bt568.1,bt568.2.1,bt568.2.2.1,bt568.2.2.2.1,bt568.2.2.2.2))) else (none)) else (none)))) else (none))))) = some (r1,r2,r3,r4,r5):=H
    have A14:=Am A140
    clear A140
    replace H:=bI H
    obtain ⟨t542,A150,H⟩:=H
    replace H:(if t542 = true then ((impl_readWhole.f kj2 t539).bind fun bt543=>(some (bt543.1,bt543.2.1,bt543.2.2.1,bt543.2.2.2.1,bt543.2.2.2.2))) else (if t539.toList = ([]:List UInt8) then ((slices_Clone_string_string.f l0_1).bind fun t550=>(some (a0_0,t550,a0_2,a0_3,true))) else (if 0 < (t539.size:Int) then (if (bt t539 0) = 47 then ((impl_readWay.f kj2 a0_0 ([]:List ByteArray) t539).bind fun bt553=>(some (bt553.1,bt553.2.1,bt553.2.2.1,bt553.2.2.2.1,bt553.2.2.2.2))) else (if (bt t539 0) = 63 then ((impl_readWay.f kj2 a0_0 l0_1 t539).bind fun bt560=>(some (bt560.1,bt560.2.1,bt560.2.2.1,bt560.2.2.2.1,bt560.2.2.2.2))) else (if 0 ≤ (mx (wrap64 ((l0_1.length:Int) - 1)) 0) then (if (mx (wrap64 ((l0_1.length:Int) - 1)) 0) ≤ (l0_1.length:Int) then ((impl_readWay.f kj2 a0_0 (l0_1.take ((mx (wrap64 ((l0_1.length:Int) - 1)) 0):Int).toNat) t539).bind fun bt568=>(some (bt568.1,bt568.2.1,bt568.2.2.1,bt568.2.2.2.1,bt568.2.2.2.2))) else (none)) else (none)))) else (none)))) = some (r1,r2,r3,r4,r5):=H
    have A15:=Am A150
    clear A150
    by_cases c16:t542 = true
    ·subst c16
     have H1:((impl_readWhole.f kj2 t539).bind fun bt543=>(some (bt543.1,bt543.2.1,bt543.2.2.1,bt543.2.2.2.1,bt543.2.2.2.2))) = some (r1,r2,r3,r4,r5):=by rw [if_pos rfl] at H;exact H
     clear H
     have H:=H1
     clear H1
     replace H:=bI H
     obtain ⟨⟨t543,t544,t547,t548,t549⟩,A170,H⟩:=H
     replace H:(some (t543,t544,t547,t548,t549)) = some (r1,r2,r3,r4,r5):=H
     have A17:=Am A170
     clear A170
     simp only [Option.some.injEq,Prod.mk.injEq] at H
     obtain ⟨rfl,rfl,rfl,rfl,rfl⟩:=H
     go_wp2_with (first|((with_reducible refine gate_callee (f:=36) rfl ?_);refine goesL_ (some 20) rfl rfl Tryd.func36 (by kernel_rfl) rfl #[.string a1, .string (⟨#[35]⟩:ByteArray)] rfl (by (try simp only [List.map_toArray,List.map_cons,List.map_nil]);first|done|rfl|(simp only [List.length_drop,List.length_take];rfl)|(simp [Act.eval,Array.getD_eq_getD_getElem?];done)) ?_;(with_reducible refine (strings_Cut.calls a1 (⟨#[35]⟩:ByteArray) t539 t540 t541 _ A14.out).mono ?_);rintro e w' ⟨rfl,⟨nd,rfl⟩⟩;refine ⟨_,rfl,?_⟩;(try (rw [drewN_self wc];generalize hq_:World.drewN wc _ = wc;have n0_:Aside0 (wc.heap[gb536]? = some (.cells #[.string a0_0, .slice A0_1 l0_1.length c0_1, .bool a0_2, .string a0_3] 25 (0,0))):=⟨by rw [← hq_];exact (bB BK536.out)⟩;have n1_:Aside0 (wc.heap[gb537]? = some (.cells #[.string (⟨#[]⟩:ByteArray), .slice none 0 0, .bool false, .string (⟨#[]⟩:ByteArray)] 25 (0,0))):=⟨by rw [← hq_];exact (bB BK537.out)⟩;have n2_:Aside0 (Below w.heap.size w wc):=⟨by rw [← hq_];exact (by repeat (first|(with_reducible first|exact HB.out|apply bA|apply bN|apply bD|refine bS ?_ GE536.out|refine bS ?_ GE537.out)|exact HB.out))⟩;clear BK536 BK537 HB hq_;have BK536:=n0_;have BK537:=n1_;have HB:=n2_;clear n0_ n1_ n2_)))|((with_reducible refine gate_callee (f:=37) rfl ?_);refine goesL_ (some 26) rfl rfl Tryd.func37 (by kernel_rfl) rfl #[.string t539, .string (⟨#[47,47]⟩:ByteArray)] rfl (by (try simp only [List.map_toArray,List.map_cons,List.map_nil]);first|done|rfl|(simp only [List.length_drop,List.length_take];rfl)|(simp [Act.eval,Array.getD_eq_getD_getElem?];done)) ?_;(with_reducible refine (strings_HasPrefix.calls t539 (⟨#[47,47]⟩:ByteArray) true _ A15.out).mono ?_);rintro e w' ⟨rfl,⟨nd,rfl⟩⟩;refine ⟨_,rfl,?_⟩;(try (rw [drewN_self wc];generalize hq_:World.drewN wc _ = wc;have n0_:Aside0 (wc.heap[gb536]? = some (.cells #[.string a0_0, .slice A0_1 l0_1.length c0_1, .bool a0_2, .string a0_3] 25 (0,0))):=⟨by rw [← hq_];exact (bB BK536.out)⟩;have n1_:Aside0 (wc.heap[gb537]? = some (.cells #[.string (⟨#[]⟩:ByteArray), .slice none 0 0, .bool false, .string (⟨#[]⟩:ByteArray)] 25 (0,0))):=⟨by rw [← hq_];exact (bB BK537.out)⟩;have n2_:Aside0 (Below w.heap.size w wc):=⟨by rw [← hq_];exact (by repeat (first|(with_reducible first|exact HB.out|apply bA|apply bN|apply bD|refine bS ?_ GE536.out|refine bS ?_ GE537.out)|exact HB.out))⟩;clear BK536 BK537 HB hq_;have BK536:=n0_;have BK537:=n1_;have HB:=n2_;clear n0_ n1_ n2_)))|((with_reducible refine gate_callee (f:=38) rfl ?_);refine goesL_ (some 28) rfl rfl Tryd.func38 (by kernel_rfl) rfl #[.string t539] rfl (by (try simp only [List.map_toArray,List.map_cons,List.map_nil]);first|done|rfl|(simp only [List.length_drop,List.length_take];rfl)|(simp [Act.eval,Array.getD_eq_getD_getElem?];done)) ?_;(with_reducible refine (impl_readWhole.calls kj2 t539 t543 t544 t547 t548 t549 _ A17.out).mono ?_);rintro e w18 ⟨v545,rfl,ho0,hb⟩;refine ⟨_,rfl,?_⟩;have n0_:=Am (Kd.R_lower ho0 (bU (by repeat (first|(with_reducible first|exact HB.out|apply bA|apply bN|apply bD|refine bS ?_ GE536.out|refine bS ?_ GE537.out)|exact HB.out))));have n1_:=Am (blk_below (bB BK536.out) hb);have n2_:=Am (blk_below (bB BK537.out) hb);have n3_:=Am (bT (by repeat (first|(with_reducible first|exact HB.out|apply bA|apply bN|apply bD|refine bS ?_ GE536.out|refine bS ?_ GE537.out)|exact HB.out)) hb);clear BK536 BK537 HB;have HO546:=n0_;have BK536:=n1_;have BK537:=n2_;have HB:=n3_;clear n0_ n1_ n2_ n3_;(try clear hb);(try clear ho0);have hnb19:=NB537_536.out;have hnc19:=NB536_537.out;have hcz20_0:w18.cell? ⟨gb537,0,none⟩ = some (.string (⟨#[]⟩:ByteArray)):=bM BK537.out 0 rfl;have hcz20_1:w18.cell? ⟨gb537,1,none⟩ = some (.slice none 0 0):=bM BK537.out 1 rfl;have hcz20_2:w18.cell? ⟨gb537,2,none⟩ = some (.bool false):=bM BK537.out 2 rfl;have hcz20_3:w18.cell? ⟨gb537,3,none⟩ = some (.string (⟨#[]⟩:ByteArray)):=bM BK537.out 3 rfl;have hfz20_0:=bZ BK537.out 0;have hfz20_1:=bZ BK537.out 1;have hfz20_2:=bZ BK537.out 2;have hfz20_3:=bZ BK537.out 3;obtain ⟨Ao21,co21,eo21⟩:=Kd.R_slice HO546.out;subst eo21))
     refine bodyPost_ret (results_ct rfl _ _ gb537 25 #[.string t543, .slice Ao21 t544.length co21, .bool t547, .string t548] (0,0) _ rfl (by refine bB ?_;apply bP;refine bB ?_;exact BK537.out) Tryd.underlying25 rfl (by kernel_rfl)) rfl ?_
     exact ⟨_,by first|rfl|(simp <;> rfl)|(simp [*] <;> rfl),by (with_reducible repeat (first|apply rA|apply rN|apply rD));exact Kd.R_mono (Kd.R_far (p:=⟨gb537,3,none⟩) (Kd.R_far (p:=⟨gb537,2,none⟩) (Kd.R_far (p:=⟨gb537,1,none⟩) (Kd.R_far (p:=⟨gb537,0,none⟩) (Kd.R_types HO546.out BK537.out (by decide)) (fun _ hk=>hk.2) (.string t543)) (fun _ hk=>hk.2) (.slice Ao21 t544.length co21)) (fun _ hk=>hk.2) (.bool t547)) (fun _ hk=>hk.2) (.string t548)) (fun _ hk=>trivial),by repeat (first|(with_reducible first|exact HB.out|apply bA|apply bN|apply bD|refine bS ?_ GE536.out|refine bS ?_ GE537.out)|exact HB.out)⟩
    ·replace c16:=Bool.eq_false_iff.mpr c16
     subst c16
     have H1:(if t539.toList = ([]:List UInt8) then ((slices_Clone_string_string.f l0_1).bind fun t550=>(some (a0_0,t550,a0_2,a0_3,true))) else (if 0 < (t539.size:Int) then (if (bt t539 0) = 47 then ((impl_readWay.f kj2 a0_0 ([]:List ByteArray) t539).bind fun bt553=>(some (bt553.1,bt553.2.1,bt553.2.2.1,bt553.2.2.2.1,bt553.2.2.2.2))) else (if (bt t539 0) = 63 then ((impl_readWay.f kj2 a0_0 l0_1 t539).bind fun bt560=>(some (bt560.1,bt560.2.1,bt560.2.2.1,bt560.2.2.2.1,bt560.2.2.2.2))) else (if 0 ≤ (mx (wrap64 ((l0_1.length:Int) - 1)) 0) then (if (mx (wrap64 ((l0_1.length:Int) - 1)) 0) ≤ (l0_1.length:Int) then ((impl_readWay.f kj2 a0_0 (l0_1.take ((mx (wrap64 ((l0_1.length:Int) - 1)) 0):Int).toNat) t539).bind fun bt568=>(some (bt568.1,bt568.2.1,bt568.2.2.1,bt568.2.2.2.1,bt568.2.2.2.2))) else (none)) else (none)))) else (none))) = some (r1,r2,r3,r4,r5):=by rw [if_neg (show ¬ (false = true) by decide)] at H;exact H
     clear H
     have H:=H1
     clear H1
     by_cases c22:t539.toList = ([]:List UInt8)
     ·rw [if_pos c22] at H
      (try (have c22b0:t539.toList.isEmpty = true:=by simpa using c22))
      have c22b1:(t539.toList == ([]:List UInt8)) = true:=beq_iff_eq.mpr c22
      have c22b2:(t539.toList != ([]:List UInt8)) = false:=bne_eq_false_iff_eq.mpr c22
      clear c22
      replace H:=bI H
      obtain ⟨t550,A230,H⟩:=H
      replace H:(some (a0_0,t550,a0_2,a0_3,true)) = some (r1,r2,r3,r4,r5):=H
      have A23:=Am A230
      clear A230
      simp only [Option.some.injEq,Prod.mk.injEq] at H
      obtain ⟨rfl,rfl,rfl,rfl,rfl⟩:=H
      go_wp2_with (first|((with_reducible refine gate_callee (f:=36) rfl ?_);refine goesL_ (some 20) rfl rfl Tryd.func36 (by kernel_rfl) rfl #[.string a1, .string (⟨#[35]⟩:ByteArray)] rfl (by (try simp only [List.map_toArray,List.map_cons,List.map_nil]);first|done|rfl|(simp only [List.length_drop,List.length_take];rfl)|(simp [Act.eval,Array.getD_eq_getD_getElem?];done)) ?_;(with_reducible refine (strings_Cut.calls a1 (⟨#[35]⟩:ByteArray) t539 t540 t541 _ A14.out).mono ?_);rintro e w' ⟨rfl,⟨nd,rfl⟩⟩;refine ⟨_,rfl,?_⟩;(try (rw [drewN_self wc];generalize hq_:World.drewN wc _ = wc;have n0_:Aside0 (wc.heap[gb536]? = some (.cells #[.string a0_0, .slice A0_1 l0_1.length c0_1, .bool a0_2, .string a0_3] 25 (0,0))):=⟨by rw [← hq_];exact (bB BK536.out)⟩;have n1_:Aside0 (wc.heap[gb537]? = some (.cells #[.string (⟨#[]⟩:ByteArray), .slice none 0 0, .bool false, .string (⟨#[]⟩:ByteArray)] 25 (0,0))):=⟨by rw [← hq_];exact (bB BK537.out)⟩;have n2_:Aside0 (Below w.heap.size w wc):=⟨by rw [← hq_];exact (by repeat (first|(with_reducible first|exact HB.out|apply bA|apply bN|apply bD|refine bS ?_ GE536.out|refine bS ?_ GE537.out)|exact HB.out))⟩;clear BK536 BK537 HB hq_;have BK536:=n0_;have BK537:=n1_;have HB:=n2_;clear n0_ n1_ n2_)))|((with_reducible refine gate_callee (f:=37) rfl ?_);refine goesL_ (some 26) rfl rfl Tryd.func37 (by kernel_rfl) rfl #[.string t539, .string (⟨#[47,47]⟩:ByteArray)] rfl (by (try simp only [List.map_toArray,List.map_cons,List.map_nil]);first|done|rfl|(simp only [List.length_drop,List.length_take];rfl)|(simp [Act.eval,Array.getD_eq_getD_getElem?];done)) ?_;(with_reducible refine (strings_HasPrefix.calls t539 (⟨#[47,47]⟩:ByteArray) false _ A15.out).mono ?_);rintro e w' ⟨rfl,⟨nd,rfl⟩⟩;refine ⟨_,rfl,?_⟩;(try (rw [drewN_self wc];generalize hq_:World.drewN wc _ = wc;have n0_:Aside0 (wc.heap[gb536]? = some (.cells #[.string a0_0, .slice A0_1 l0_1.length c0_1, .bool a0_2, .string a0_3] 25 (0,0))):=⟨by rw [← hq_];exact (bB BK536.out)⟩;have n1_:Aside0 (wc.heap[gb537]? = some (.cells #[.string (⟨#[]⟩:ByteArray), .slice none 0 0, .bool false, .string (⟨#[]⟩:ByteArray)] 25 (0,0))):=⟨by rw [← hq_];exact (bB BK537.out)⟩;have n2_:Aside0 (Below w.heap.size w wc):=⟨by rw [← hq_];exact (by repeat (first|(with_reducible first|exact HB.out|apply bA|apply bN|apply bD|refine bS ?_ GE536.out|refine bS ?_ GE537.out)|exact HB.out))⟩;clear BK536 BK537 HB hq_;have BK536:=n0_;have BK537:=n1_;have HB:=n2_;clear n0_ n1_ n2_));have hnb24:=NB536_537.out;have hnc24:=NB537_536.out;have hcz25_0:wc.cell? ⟨gb536,0,none⟩ = some (.string a0_0):=bM BK536.out 0 rfl;have hcz25_1:wc.cell? ⟨gb536,1,none⟩ = some (.slice A0_1 l0_1.length c0_1):=bM BK536.out 1 rfl;have hcz25_2:wc.cell? ⟨gb536,2,none⟩ = some (.bool a0_2):=bM BK536.out 2 rfl;have hcz25_3:wc.cell? ⟨gb536,3,none⟩ = some (.string a0_3):=bM BK536.out 3 rfl;have hfz25_0:=bZ BK536.out 0;have hfz25_1:=bZ BK536.out 1;have hfz25_2:=bZ BK536.out 2;have hfz25_3:=bZ BK536.out 3)|((with_reducible refine gate_callee (f:=39) rfl ?_);refine goesL_ (some 36) rfl rfl Tryd.func39 (by kernel_rfl) rfl #[.slice A0_1 l0_1.length c0_1] rfl (by (try simp only [List.map_toArray,List.map_cons,List.map_nil]);first|done|rfl|(simp only [List.length_drop,List.length_take];rfl)|(simp [Act.eval,Array.getD_eq_getD_getElem?];done)) ?_;(with_reducible refine (slices_Clone_string_string.calls _ _ l0_1 t550 _ ?side1 ?side2 A23.out).mono ?_);(case side1=>repeat (first|exact (Kd.C_below HR0_1.out HB.out)|(with_reducible refine bC ?_)));(case side2=>exact HC0_1.out);rintro e w26 ⟨v551,rfl,ho0,hb⟩;refine ⟨_,rfl,?_⟩;have n0_:=Am (Kd.R_lower ho0 (bU (by repeat (first|(with_reducible first|exact HB.out|apply bA|apply bN|apply bD|refine bS ?_ GE536.out|refine bS ?_ GE537.out)|exact HB.out))));have n1_:=Am (blk_below (bB BK536.out) hb);have n2_:=Am (blk_below (bB BK537.out) hb);have n3_:=Am (bT (by repeat (first|(with_reducible first|exact HB.out|apply bA|apply bN|apply bD|refine bS ?_ GE536.out|refine bS ?_ GE537.out)|exact HB.out)) hb);clear BK536 BK537 HB;have HO552:=n0_;have BK536:=n1_;have BK537:=n2_;have HB:=n3_;clear n0_ n1_ n2_ n3_;(try clear hb);(try clear ho0);obtain ⟨Ao27,co27,eo27⟩:=Kd.R_slice HO552.out;subst eo27;have hcz28_0:w26.cell? ⟨gb536,0,none⟩ = some (.string a0_0):=bM BK536.out 0 rfl;have hcz28_1:w26.cell? ⟨gb536,1,none⟩ = some (.slice A0_1 l0_1.length c0_1):=bM BK536.out 1 rfl;have hcz28_2:w26.cell? ⟨gb536,2,none⟩ = some (.bool a0_2):=bM BK536.out 2 rfl;have hcz28_3:w26.cell? ⟨gb536,3,none⟩ = some (.string a0_3):=bM BK536.out 3 rfl;have hfz28_0:=bZ BK536.out 0;have hfz28_1:=bZ BK536.out 1;have hfz28_2:=bZ BK536.out 2;have hfz28_3:=bZ BK536.out 3;have hcz29_0:w26.cell? ⟨gb537,0,none⟩ = some (.string (⟨#[]⟩:ByteArray)):=bM BK537.out 0 rfl;have hcz29_1:w26.cell? ⟨gb537,1,none⟩ = some (.slice none 0 0):=bM BK537.out 1 rfl;have hcz29_2:w26.cell? ⟨gb537,2,none⟩ = some (.bool false):=bM BK537.out 2 rfl;have hcz29_3:w26.cell? ⟨gb537,3,none⟩ = some (.string (⟨#[]⟩:ByteArray)):=bM BK537.out 3 rfl;have hfz29_0:=bZ BK537.out 0;have hfz29_1:=bZ BK537.out 1;have hfz29_2:=bZ BK537.out 2;have hfz29_3:=bZ BK537.out 3))
      refine bodyPost_ret (results_ct rfl _ _ gb537 25 #[.string a0_0, .slice Ao27 t550.length co27, .bool a0_2, .string a0_3] (0,0) _ rfl (by refine bB ?_;apply bP;refine bB ?_;refine blk_far ?_ NB537_536.out _;refine bB ?_;exact BK537.out) Tryd.underlying25 rfl (by kernel_rfl)) rfl ?_
      exact ⟨_,by first|rfl|(simp <;> rfl)|(simp [*] <;> rfl),by (with_reducible repeat (first|apply rA|apply rN|apply rD));exact Kd.R_mono (Kd.R_far (p:=⟨gb537,3,none⟩) (Kd.R_far (p:=⟨gb537,2,none⟩) (Kd.R_far (p:=⟨gb537,1,none⟩) (Kd.R_far (p:=⟨gb537,0,none⟩) (Kd.R_far (p:=⟨gb536,1,none⟩) (Kd.R_types (Kd.R_types HO552.out BK536.out (by decide)) BK537.out (by decide)) (fun _ hk=>hk.1.2) (.slice Ao27 t550.length co27)) (fun _ hk=>hk.2) (.string a0_0)) (fun _ hk=>hk.2) (.slice Ao27 t550.length co27)) (fun _ hk=>hk.2) (.bool a0_2)) (fun _ hk=>hk.2) (.string a0_3)) (fun _ hk=>trivial),by repeat (first|(with_reducible first|exact HB.out|apply bA|apply bN|apply bD|refine bS ?_ GE536.out|refine bS ?_ GE537.out)|exact HB.out)⟩
     ·rw [if_neg c22] at H
      (try (have c22b0:t539.toList.isEmpty = false:=by simpa using c22))
      have c22b1:(t539.toList == ([]:List UInt8)) = false:=beq_eq_false_iff_ne.mpr c22
      have c22b2:(t539.toList != ([]:List UInt8)) = true:=bne_iff_ne.mpr c22
      by_cases c30:0 < (t539.size:Int)
      ·rw [if_pos c30] at H
       have c30b0:decide (0 < (t539.size:Int)) = true:=decide_eq_true c30
       have c30b1:decide (0 < t539.size) = true:=decide_eq_true (by omega)
       clear c30
       by_cases c32:(bt t539 0) = 47
       ·rw [if_pos c32] at H
        have c32b0:((bt t539 0) == 47) = true:=beq_iff_eq.mpr c32
        have c32b1:((bt t539 0) != 47) = false:=bne_eq_false_iff_eq.mpr c32
        clear c32
        replace H:=bI H
        obtain ⟨⟨t553,t554,t557,t558,t559⟩,A330,H⟩:=H
        replace H:(some (t553,t554,t557,t558,t559)) = some (r1,r2,r3,r4,r5):=H
        have A33:=Am A330
        clear A330
        simp only [Option.some.injEq,Prod.mk.injEq] at H
        obtain ⟨rfl,rfl,rfl,rfl,rfl⟩:=H
        go_wp2_with (first|((with_reducible refine gate_callee (f:=36) rfl ?_);refine goesL_ (some 20) rfl rfl Tryd.func36 (by kernel_rfl) rfl #[.string a1, .string (⟨#[35]⟩:ByteArray)] rfl (by (try simp only [List.map_toArray,List.map_cons,List.map_nil]);first|done|rfl|(simp only [List.length_drop,List.length_take];rfl)|(simp [Act.eval,Array.getD_eq_getD_getElem?];done)) ?_;(with_reducible refine (strings_Cut.calls a1 (⟨#[35]⟩:ByteArray) t539 t540 t541 _ A14.out).mono ?_);rintro e w' ⟨rfl,⟨nd,rfl⟩⟩;refine ⟨_,rfl,?_⟩;(try (rw [drewN_self wc];generalize hq_:World.drewN wc _ = wc;have n0_:Aside0 (wc.heap[gb536]? = some (.cells #[.string a0_0, .slice A0_1 l0_1.length c0_1, .bool a0_2, .string a0_3] 25 (0,0))):=⟨by rw [← hq_];exact (bB BK536.out)⟩;have n1_:Aside0 (wc.heap[gb537]? = some (.cells #[.string (⟨#[]⟩:ByteArray), .slice none 0 0, .bool false, .string (⟨#[]⟩:ByteArray)] 25 (0,0))):=⟨by rw [← hq_];exact (bB BK537.out)⟩;have n2_:Aside0 (Below w.heap.size w wc):=⟨by rw [← hq_];exact (by repeat (first|(with_reducible first|exact HB.out|apply bA|apply bN|apply bD|refine bS ?_ GE536.out|refine bS ?_ GE537.out)|exact HB.out))⟩;clear BK536 BK537 HB hq_;have BK536:=n0_;have BK537:=n1_;have HB:=n2_;clear n0_ n1_ n2_)))|((with_reducible refine gate_callee (f:=37) rfl ?_);refine goesL_ (some 26) rfl rfl Tryd.func37 (by kernel_rfl) rfl #[.string t539, .string (⟨#[47,47]⟩:ByteArray)] rfl (by (try simp only [List.map_toArray,List.map_cons,List.map_nil]);first|done|rfl|(simp only [List.length_drop,List.length_take];rfl)|(simp [Act.eval,Array.getD_eq_getD_getElem?];done)) ?_;(with_reducible refine (strings_HasPrefix.calls t539 (⟨#[47,47]⟩:ByteArray) false _ A15.out).mono ?_);rintro e w' ⟨rfl,⟨nd,rfl⟩⟩;refine ⟨_,rfl,?_⟩;(try (rw [drewN_self wc];generalize hq_:World.drewN wc _ = wc;have n0_:Aside0 (wc.heap[gb536]? = some (.cells #[.string a0_0, .slice A0_1 l0_1.length c0_1, .bool a0_2, .string a0_3] 25 (0,0))):=⟨by rw [← hq_];exact (bB BK536.out)⟩;have n1_:Aside0 (wc.heap[gb537]? = some (.cells #[.string (⟨#[]⟩:ByteArray), .slice none 0 0, .bool false, .string (⟨#[]⟩:ByteArray)] 25 (0,0))):=⟨by rw [← hq_];exact (bB BK537.out)⟩;have n2_:Aside0 (Below w.heap.size w wc):=⟨by rw [← hq_];exact (by repeat (first|(with_reducible first|exact HB.out|apply bA|apply bN|apply bD|refine bS ?_ GE536.out|refine bS ?_ GE537.out)|exact HB.out))⟩;clear BK536 BK537 HB hq_;have BK536:=n0_;have BK537:=n1_;have HB:=n2_;clear n0_ n1_ n2_));have p31:0 ≤ (0:Int):=(by omega);have q31:0 < t539.size:=(by have:(0:Int) < (t539.size:Int):=oD (by assumption);omega);have hx31:∀ h:0 < t539.size,((t539[0]'h).toNat:Int) = bt t539 0:=bt_at t539 0;clear p31;have qi31:(0 < (t539.size:Int)) = True:=eq_true (oD (by assumption));replace q31:=eq_true q31;have hnb34:=NB536_537.out;have hnc34:=NB537_536.out;have hcz35_0:wc.cell? ⟨gb536,0,none⟩ = some (.string a0_0):=bM BK536.out 0 rfl;have hcz35_1:wc.cell? ⟨gb536,1,none⟩ = some (.slice A0_1 l0_1.length c0_1):=bM BK536.out 1 rfl;have hcz35_2:wc.cell? ⟨gb536,2,none⟩ = some (.bool a0_2):=bM BK536.out 2 rfl;have hcz35_3:wc.cell? ⟨gb536,3,none⟩ = some (.string a0_3):=bM BK536.out 3 rfl;have hfz35_0:=bZ BK536.out 0;have hfz35_1:=bZ BK536.out 1;have hfz35_2:=bZ BK536.out 2;have hfz35_3:=bZ BK536.out 3)|((with_reducible refine gate_callee (f:=40) rfl ?_);refine goesL_ (some 46) rfl rfl Tryd.func40 (by kernel_rfl) rfl #[.string a0_0, .slice none 0 0, .string t539] rfl (by (try simp only [List.map_toArray,List.map_cons,List.map_nil]);first|done|rfl|(simp only [List.length_drop,List.length_take];rfl)|(simp [Act.eval,Array.getD_eq_getD_getElem?];done)) ?_;(refine (impl_readWay.calls kj2 a0_0 _ _ ([]:List ByteArray) t539 t553 t554 t557 t558 t559 _ ?side1 ?side2 A33.out).mono ?_);(case side1=>exact Kd.C_nil _ _);(case side2=>exact Nat.le_refl _);rintro e w36 ⟨v555,rfl,ho0,hb⟩;refine ⟨_,rfl,?_⟩;have n0_:=Am (Kd.R_lower ho0 (bU (by repeat (first|(with_reducible first|exact HB.out|apply bA|apply bN|apply bD|refine bS ?_ GE536.out|refine bS ?_ GE537.out)|exact HB.out))));have n1_:=Am (blk_below (bB BK536.out) hb);have n2_:=Am (blk_below (bB BK537.out) hb);have n3_:=Am (bT (by repeat (first|(with_reducible first|exact HB.out|apply bA|apply bN|apply bD|refine bS ?_ GE536.out|refine bS ?_ GE537.out)|exact HB.out)) hb);clear BK536 BK537 HB;have HO556:=n0_;have BK536:=n1_;have BK537:=n2_;have HB:=n3_;clear n0_ n1_ n2_ n3_;(try clear hb);(try clear ho0);have hcz37_0:w36.cell? ⟨gb537,0,none⟩ = some (.string (⟨#[]⟩:ByteArray)):=bM BK537.out 0 rfl;have hcz37_1:w36.cell? ⟨gb537,1,none⟩ = some (.slice none 0 0):=bM BK537.out 1 rfl;have hcz37_2:w36.cell? ⟨gb537,2,none⟩ = some (.bool false):=bM BK537.out 2 rfl;have hcz37_3:w36.cell? ⟨gb537,3,none⟩ = some (.string (⟨#[]⟩:ByteArray)):=bM BK537.out 3 rfl;have hfz37_0:=bZ BK537.out 0;have hfz37_1:=bZ BK537.out 1;have hfz37_2:=bZ BK537.out 2;have hfz37_3:=bZ BK537.out 3;obtain ⟨Ao38,co38,eo38⟩:=Kd.R_slice HO556.out;subst eo38))
        refine bodyPost_ret (results_ct rfl _ _ gb537 25 #[.string t553, .slice Ao38 t554.length co38, .bool t557, .string t558] (0,0) _ rfl (by refine bB ?_;apply bP;refine bB ?_;exact BK537.out) Tryd.underlying25 rfl (by kernel_rfl)) rfl ?_
        exact ⟨_,by first|rfl|(simp <;> rfl)|(simp [*] <;> rfl),by (with_reducible repeat (first|apply rA|apply rN|apply rD));exact Kd.R_mono (Kd.R_far (p:=⟨gb537,3,none⟩) (Kd.R_far (p:=⟨gb537,2,none⟩) (Kd.R_far (p:=⟨gb537,1,none⟩) (Kd.R_far (p:=⟨gb537,0,none⟩) (Kd.R_types HO556.out BK537.out (by decide)) (fun _ hk=>hk.2) (.string t553)) (fun _ hk=>hk.2) (.slice Ao38 t554.length co38)) (fun _ hk=>hk.2) (.bool t557)) (fun _ hk=>hk.2) (.string t558)) (fun _ hk=>trivial),by repeat (first|(with_reducible first|exact HB.out|apply bA|apply bN|apply bD|refine bS ?_ GE536.out|refine bS ?_ GE537.out)|exact HB.out)⟩
       ·rw [if_neg c32] at H
        have c32b0:((bt t539 0) == 47) = false:=beq_eq_false_iff_ne.mpr c32
        have c32b1:((bt t539 0) != 47) = true:=bne_iff_ne.mpr c32
        by_cases c40:(bt t539 0) = 63
        ·rw [if_pos c40] at H
         have c40b0:((bt t539 0) == 63) = true:=beq_iff_eq.mpr c40
         have c40b1:((bt t539 0) != 63) = false:=bne_eq_false_iff_eq.mpr c40
         clear c40
         replace H:=bI H
         obtain ⟨⟨t560,t561,t564,t565,t566⟩,A410,H⟩:=H
         replace H:(some (t560,t561,t564,t565,t566)) = some (r1,r2,r3,r4,r5):=H
         have A41:=Am A410
         clear A410
         simp only [Option.some.injEq,Prod.mk.injEq] at H
         obtain ⟨rfl,rfl,rfl,rfl,rfl⟩:=H
         go_wp2_with (first|((with_reducible refine gate_callee (f:=36) rfl ?_);refine goesL_ (some 20) rfl rfl Tryd.func36 (by kernel_rfl) rfl #[.string a1, .string (⟨#[35]⟩:ByteArray)] rfl (by (try simp only [List.map_toArray,List.map_cons,List.map_nil]);first|done|rfl|(simp only [List.length_drop,List.length_take];rfl)|(simp [Act.eval,Array.getD_eq_getD_getElem?];done)) ?_;(with_reducible refine (strings_Cut.calls a1 (⟨#[35]⟩:ByteArray) t539 t540 t541 _ A14.out).mono ?_);rintro e w' ⟨rfl,⟨nd,rfl⟩⟩;refine ⟨_,rfl,?_⟩;(try (rw [drewN_self wc];generalize hq_:World.drewN wc _ = wc;have n0_:Aside0 (wc.heap[gb536]? = some (.cells #[.string a0_0, .slice A0_1 l0_1.length c0_1, .bool a0_2, .string a0_3] 25 (0,0))):=⟨by rw [← hq_];exact (bB BK536.out)⟩;have n1_:Aside0 (wc.heap[gb537]? = some (.cells #[.string (⟨#[]⟩:ByteArray), .slice none 0 0, .bool false, .string (⟨#[]⟩:ByteArray)] 25 (0,0))):=⟨by rw [← hq_];exact (bB BK537.out)⟩;have n2_:Aside0 (Below w.heap.size w wc):=⟨by rw [← hq_];exact (by repeat (first|(with_reducible first|exact HB.out|apply bA|apply bN|apply bD|refine bS ?_ GE536.out|refine bS ?_ GE537.out)|exact HB.out))⟩;clear BK536 BK537 HB hq_;have BK536:=n0_;have BK537:=n1_;have HB:=n2_;clear n0_ n1_ n2_)))|((with_reducible refine gate_callee (f:=37) rfl ?_);refine goesL_ (some 26) rfl rfl Tryd.func37 (by kernel_rfl) rfl #[.string t539, .string (⟨#[47,47]⟩:ByteArray)] rfl (by (try simp only [List.map_toArray,List.map_cons,List.map_nil]);first|done|rfl|(simp only [List.length_drop,List.length_take];rfl)|(simp [Act.eval,Array.getD_eq_getD_getElem?];done)) ?_;(with_reducible refine (strings_HasPrefix.calls t539 (⟨#[47,47]⟩:ByteArray) false _ A15.out).mono ?_);rintro e w' ⟨rfl,⟨nd,rfl⟩⟩;refine ⟨_,rfl,?_⟩;(try (rw [drewN_self wc];generalize hq_:World.drewN wc _ = wc;have n0_:Aside0 (wc.heap[gb536]? = some (.cells #[.string a0_0, .slice A0_1 l0_1.length c0_1, .bool a0_2, .string a0_3] 25 (0,0))):=⟨by rw [← hq_];exact (bB BK536.out)⟩;have n1_:Aside0 (wc.heap[gb537]? = some (.cells #[.string (⟨#[]⟩:ByteArray), .slice none 0 0, .bool false, .string (⟨#[]⟩:ByteArray)] 25 (0,0))):=⟨by rw [← hq_];exact (bB BK537.out)⟩;have n2_:Aside0 (Below w.heap.size w wc):=⟨by rw [← hq_];exact (by repeat (first|(with_reducible first|exact HB.out|apply bA|apply bN|apply bD|refine bS ?_ GE536.out|refine bS ?_ GE537.out)|exact HB.out))⟩;clear BK536 BK537 HB hq_;have BK536:=n0_;have BK537:=n1_;have HB:=n2_;clear n0_ n1_ n2_));have p31:0 ≤ (0:Int):=(by omega);have q31:0 < t539.size:=(by have:(0:Int) < (t539.size:Int):=oD (by assumption);omega);have hx31:∀ h:0 < t539.size,((t539[0]'h).toNat:Int) = bt t539 0:=bt_at t539 0;clear p31;have qi31:(0 < (t539.size:Int)) = True:=eq_true (oD (by assumption));replace q31:=eq_true q31;have p39:0 ≤ (0:Int):=(by omega);have q39:0 < t539.size:=(by have:(0:Int) < (t539.size:Int):=oD (by assumption);omega);have hx39:∀ h:0 < t539.size,((t539[0]'h).toNat:Int) = bt t539 0:=bt_at t539 0;clear p39;have qi39:(0 < (t539.size:Int)) = True:=eq_true (oD (by assumption));replace q39:=eq_true q39;have hnb42:=NB536_537.out;have hnc42:=NB537_536.out;have hcz43_0:wc.cell? ⟨gb536,0,none⟩ = some (.string a0_0):=bM BK536.out 0 rfl;have hcz43_1:wc.cell? ⟨gb536,1,none⟩ = some (.slice A0_1 l0_1.length c0_1):=bM BK536.out 1 rfl;have hcz43_2:wc.cell? ⟨gb536,2,none⟩ = some (.bool a0_2):=bM BK536.out 2 rfl;have hcz43_3:wc.cell? ⟨gb536,3,none⟩ = some (.string a0_3):=bM BK536.out 3 rfl;have hfz43_0:=bZ BK536.out 0;have hfz43_1:=bZ BK536.out 1;have hfz43_2:=bZ BK536.out 2;have hfz43_3:=bZ BK536.out 3)|((with_reducible refine gate_callee (f:=40) rfl ?_);refine goesL_ (some 58) rfl rfl Tryd.func40 (by kernel_rfl) rfl #[.string a0_0, .slice A0_1 l0_1.length c0_1, .string t539] rfl (by (try simp only [List.map_toArray,List.map_cons,List.map_nil]);first|done|rfl|(simp only [List.length_drop,List.length_take];rfl)|(simp [Act.eval,Array.getD_eq_getD_getElem?];done)) ?_;(with_reducible refine (impl_readWay.calls kj2 a0_0 _ _ l0_1 t539 t560 t561 t564 t565 t566 _ ?side1 ?side2 A41.out).mono ?_);(case side1=>repeat (first|exact (Kd.C_below HR0_1.out HB.out)|(with_reducible refine bC ?_)));(case side2=>exact HC0_1.out);rintro e w44 ⟨v562,rfl,ho0,hb⟩;refine ⟨_,rfl,?_⟩;have n0_:=Am (Kd.R_lower ho0 (bU (by repeat (first|(with_reducible first|exact HB.out|apply bA|apply bN|apply bD|refine bS ?_ GE536.out|refine bS ?_ GE537.out)|exact HB.out))));have n1_:=Am (blk_below (bB BK536.out) hb);have n2_:=Am (blk_below (bB BK537.out) hb);have n3_:=Am (bT (by repeat (first|(with_reducible first|exact HB.out|apply bA|apply bN|apply bD|refine bS ?_ GE536.out|refine bS ?_ GE537.out)|exact HB.out)) hb);clear BK536 BK537 HB;have HO563:=n0_;have BK536:=n1_;have BK537:=n2_;have HB:=n3_;clear n0_ n1_ n2_ n3_;(try clear hb);(try clear ho0);have hcz45_0:w44.cell? ⟨gb537,0,none⟩ = some (.string (⟨#[]⟩:ByteArray)):=bM BK537.out 0 rfl;have hcz45_1:w44.cell? ⟨gb537,1,none⟩ = some (.slice none 0 0):=bM BK537.out 1 rfl;have hcz45_2:w44.cell? ⟨gb537,2,none⟩ = some (.bool false):=bM BK537.out 2 rfl;have hcz45_3:w44.cell? ⟨gb537,3,none⟩ = some (.string (⟨#[]⟩:ByteArray)):=bM BK537.out 3 rfl;have hfz45_0:=bZ BK537.out 0;have hfz45_1:=bZ BK537.out 1;have hfz45_2:=bZ BK537.out 2;have hfz45_3:=bZ BK537.out 3;obtain ⟨Ao46,co46,eo46⟩:=Kd.R_slice HO563.out;subst eo46))
         refine bodyPost_ret (results_ct rfl _ _ gb537 25 #[.string t560, .slice Ao46 t561.length co46, .bool t564, .string t565] (0,0) _ rfl (by refine bB ?_;apply bP;refine bB ?_;exact BK537.out) Tryd.underlying25 rfl (by kernel_rfl)) rfl ?_
         exact ⟨_,by first|rfl|(simp <;> rfl)|(simp [*] <;> rfl),by (with_reducible repeat (first|apply rA|apply rN|apply rD));exact Kd.R_mono (Kd.R_far (p:=⟨gb537,3,none⟩) (Kd.R_far (p:=⟨gb537,2,none⟩) (Kd.R_far (p:=⟨gb537,1,none⟩) (Kd.R_far (p:=⟨gb537,0,none⟩) (Kd.R_types HO563.out BK537.out (by decide)) (fun _ hk=>hk.2) (.string t560)) (fun _ hk=>hk.2) (.slice Ao46 t561.length co46)) (fun _ hk=>hk.2) (.bool t564)) (fun _ hk=>hk.2) (.string t565)) (fun _ hk=>trivial),by repeat (first|(with_reducible first|exact HB.out|apply bA|apply bN|apply bD|refine bS ?_ GE536.out|refine bS ?_ GE537.out)|exact HB.out)⟩
        ·rw [if_neg c40] at H
         have c40b0:((bt t539 0) == 63) = false:=beq_eq_false_iff_ne.mpr c40
         have c40b1:((bt t539 0) != 63) = true:=bne_iff_ne.mpr c40
         obtain ⟨ji47,hji47⟩:∃ j_:Int,(mx (wrap64 ((l0_1.length:Int) - 1)) 0) = j_:=⟨_,rfl⟩
         replace H:(if 0 ≤ (ji47) then (if (ji47) ≤ (l0_1.length:Int) then ((impl_readWay.f kj2 a0_0 (l0_1.take ((ji47):Int).toNat) t539).bind fun bt568=>(some (bt568.1,bt568.2.1,bt568.2.2.1,bt568.2.2.2.1,bt568.2.2.2.2))) else (none)) else (none)) = some (r1,r2,r3,r4,r5):=by first|(rw [hji47] at H;exact H)|(simp only [hji47] at H ⊢;exact H)
         (try rw [hji47] at A14)
         (try rw [hji47] at A15)
         (try (have hji47l:0 ≤ ji47:=by (rw [← hji47];unfold mx;(repeat' split) <;> omega)))
         (try (have hji47m:0 ≤ ji47:=by omega))
         have hji47_:(if (wrap64 ((l0_1.length:Int) - 1)) < 0 then 0 else (wrap64 ((l0_1.length:Int) - 1))) = ji47:=hji47
         by_cases c48:0 ≤ (ji47)
         ·rw [if_pos c48] at H
          have c48b0:=eq_true c48
          have c48b1:=decide_eq_true c48
          clear c48
          by_cases c49:(ji47) ≤ (l0_1.length:Int)
          ·rw [if_pos c49] at H
           have c49b0:=eq_true c49
           have c49b1:=decide_eq_true c49
           clear c49
           replace H:=bI H
           obtain ⟨⟨t568,t569,t572,t573,t574⟩,A500,H⟩:=H
           replace H:(some (t568,t569,t572,t573,t574)) = some (r1,r2,r3,r4,r5):=H
           have A50:=Am A500
           clear A500
           simp only [Option.some.injEq,Prod.mk.injEq] at H
           obtain ⟨rfl,rfl,rfl,rfl,rfl⟩:=H
           try go_wp2_with (first|((with_reducible refine gate_callee (f:=36) rfl ?_);refine goesL_ (some 20) rfl rfl Tryd.func36 (by kernel_rfl) rfl #[.string a1, .string (⟨#[35]⟩:ByteArray)] rfl (by (try simp only [List.map_toArray,List.map_cons,List.map_nil]);first|done|rfl|(simp only [List.length_drop,List.length_take];rfl)|(simp [Act.eval,Array.getD_eq_getD_getElem?];done)) ?_;(with_reducible refine (strings_Cut.calls a1 (⟨#[35]⟩:ByteArray) t539 t540 t541 _ A14.out).mono ?_);rintro e w' ⟨rfl,⟨nd,rfl⟩⟩;refine ⟨_,rfl,?_⟩;(try (rw [drewN_self wc];generalize hq_:World.drewN wc _ = wc;have n0_:Aside0 (wc.heap[gb536]? = some (.cells #[.string a0_0, .slice A0_1 l0_1.length c0_1, .bool a0_2, .string a0_3] 25 (0,0))):=⟨by rw [← hq_];exact (bB BK536.out)⟩;have n1_:Aside0 (wc.heap[gb537]? = some (.cells #[.string (⟨#[]⟩:ByteArray), .slice none 0 0, .bool false, .string (⟨#[]⟩:ByteArray)] 25 (0,0))):=⟨by rw [← hq_];exact (bB BK537.out)⟩;have n2_:Aside0 (Below w.heap.size w wc):=⟨by rw [← hq_];exact (by repeat (first|(with_reducible first|exact HB.out|apply bA|apply bN|apply bD|refine bS ?_ GE536.out|refine bS ?_ GE537.out)|exact HB.out))⟩;clear BK536 BK537 HB hq_;have BK536:=n0_;have BK537:=n1_;have HB:=n2_;clear n0_ n1_ n2_)))|((with_reducible refine gate_callee (f:=37) rfl ?_);refine goesL_ (some 26) rfl rfl Tryd.func37 (by kernel_rfl) rfl #[.string t539, .string (⟨#[47,47]⟩:ByteArray)] rfl (by (try simp only [List.map_toArray,List.map_cons,List.map_nil]);first|done|rfl|(simp only [List.length_drop,List.length_take];rfl)|(simp [Act.eval,Array.getD_eq_getD_getElem?];done)) ?_;(with_reducible refine (strings_HasPrefix.calls t539 (⟨#[47,47]⟩:ByteArray) false _ A15.out).mono ?_);rintro e w' ⟨rfl,⟨nd,rfl⟩⟩;refine ⟨_,rfl,?_⟩;(try (rw [drewN_self wc];generalize hq_:World.drewN wc _ = wc;have n0_:Aside0 (wc.heap[gb536]? = some (.cells #[.string a0_0, .slice A0_1 l0_1.length c0_1, .bool a0_2, .string a0_3] 25 (0,0))):=⟨by rw [← hq_];exact (bB BK536.out)⟩;have n1_:Aside0 (wc.heap[gb537]? = some (.cells #[.string (⟨#[]⟩:ByteArray), .slice none 0 0, .bool false, .string (⟨#[]⟩:ByteArray)] 25 (0,0))):=⟨by rw [← hq_];exact (bB BK537.out)⟩;have n2_:Aside0 (Below w.heap.size w wc):=⟨by rw [← hq_];exact (by repeat (first|(with_reducible first|exact HB.out|apply bA|apply bN|apply bD|refine bS ?_ GE536.out|refine bS ?_ GE537.out)|exact HB.out))⟩;clear BK536 BK537 HB hq_;have BK536:=n0_;have BK537:=n1_;have HB:=n2_;clear n0_ n1_ n2_));have p31:0 ≤ (0:Int):=(by omega);have q31:0 < t539.size:=(by have:(0:Int) < (t539.size:Int):=oD (by assumption);omega);have hx31:∀ h:0 < t539.size,((t539[0]'h).toNat:Int) = bt t539 0:=bt_at t539 0;clear p31;have qi31:(0 < (t539.size:Int)) = True:=eq_true (oD (by assumption));replace q31:=eq_true q31;have p39:0 ≤ (0:Int):=(by omega);have q39:0 < t539.size:=(by have:(0:Int) < (t539.size:Int):=oD (by assumption);omega);have hx39:∀ h:0 < t539.size,((t539[0]'h).toNat:Int) = bt t539 0:=bt_at t539 0;clear p39;have qi39:(0 < (t539.size:Int)) = True:=eq_true (oD (by assumption));replace q39:=eq_true q39))
           have n0_:=Am (blk_drew BK536.out)
           have n1_:=Am (blk_drew BK537.out)
           have n2_:=Am (below_drew1 HB.out)
           clear BK536
           clear BK537
           clear HB
           have BK536:=n0_
           have BK537:=n1_
           have HB:=n2_
           clear n0_ n1_ n2_
           obtain ⟨i052,hi052,_,hsz52,_⟩:=info_parts info9
           obtain ⟨hcut52,hA52,hC52⟩:=print_take_of (P:=Tryd.prog) Value.string (⟨#[]⟩:ByteArray) 23 9 .i64 Tryd.underlying23 hi052 hsz52 A0_1 c0_1 l0_1 (ji47) (oD (by assumption)) (oD (by assumption)) HC0_1.out
           have HR567:=Am (Kd.C_of_reads (h1:=fun _=>rfl) (hA52 _ (Kd.reads_of_C HR0_1.out)))
           have HC567:=Am hC52
           clear hA52 hC52 hi052 hsz52
           refine start_ (n:=16) (S:=fun w'=>w'.cell? ⟨gb536,0,none⟩ = some (.string a0_0) ∧ w'.cell? ⟨gb536,1,none⟩ = some (.slice A0_1 l0_1.length c0_1) ∧ w'.cell? ⟨gb536,2,none⟩ = some (.bool a0_2) ∧ w'.cell? ⟨gb536,3,none⟩ = some (.string a0_3)) (ds:=[]) #[false,false,false,false,false,false,false,false,false,false,false,false,false,false,false,false] (by kernel_rfl) rfl rfl ⟨bM BK536.out 0 rfl,bM BK536.out 1 rfl,bM BK536.out 2 rfl,bM BK536.out 3 rfl⟩ (fun hHeld=>?_);refine with_tabW impl_AddrJoin.tab13 impl_AddrJoin.bits13 (fun HT_ HW_=>?_)
           generalize wc.drew = w51 at BK536 BK537 HB HR567 hHeld ⊢
           refine pure_ (i:=0) (N:=some 61) (v:=?_) (a':=?_) #[true,false,false,false,false,false,false,false,false,false,false,false,false,false,false,false] rfl rfl (any_of HT_.out (by kernel_rfl)) (fun _ _ _ h=>h) (Or.inl ⟨by rfl,?_⟩) ?_ ?_
           rotate_left
           ·intro w'
            go_simp
            with_reducible rfl
           rotate_left
           ·simp only [Act.put,List.setIfInBounds_toArray,List.set_cons_zero,List.set_cons_succ,i64_w,i32_w]
            rfl
           refine pure_ (i:=2) (N:=some 63) (v:=?_) (a':=?_) #[true,false,true,false,false,false,false,false,false,false,false,false,false,false,false,false] rfl rfl (any_of HT_.out (by kernel_rfl)) (fun _ _ _ h=>h) (Or.inl ⟨by rfl,?_⟩) ?_ ?_
           rotate_left
           ·intro w'
            go_simp
            with_reducible rfl
           rotate_left
           ·simp only [Act.put,List.setIfInBounds_toArray,List.set_cons_zero,List.set_cons_succ,i64_w,i32_w]
            rfl
           refine pure_ (i:=4) (N:=some 65) (v:=?_) (a':=?_) #[true,false,true,false,true,false,false,false,false,false,false,false,false,false,false,false] rfl rfl (any_of HT_.out (by kernel_rfl)) (fun _ _ _ h=>h) (Or.inl ⟨by rfl,?_⟩) ?_ ?_
           rotate_left
           ·intro w'
            go_simp
            with_reducible rfl
           rotate_left
           ·simp only [Act.put,List.setIfInBounds_toArray,List.set_cons_zero,List.set_cons_succ,i64_w,i32_w]
            rfl
           refine pure_ (i:=10) (N:=some 71) (v:=?_) (a':=?_) #[true,false,true,false,true,false,false,false,false,false,true,false,false,false,false,false] rfl rfl (any_of HT_.out (by kernel_rfl)) (fun _ _ _ h=>h) (Or.inl ⟨by rfl,?_⟩) ?_ ?_
           rotate_left
           ·intro w'
            go_simp
            with_reducible rfl
           rotate_left
           ·simp only [Act.put,List.setIfInBounds_toArray,List.set_cons_zero,List.set_cons_succ,i64_w,i32_w]
            rfl
           refine take_ (i:=1) (N:=some 62) (v:=?_) (a':=?_) #[true,true,true,false,true,false,false,false,false,false,true,false,false,false,false,false] rfl rfl (take_ofW HT_.out HW_.out (by kernel_rfl)) (fun _ _ _ h=>h) (Or.inl ⟨by rfl,?_⟩) hHeld ?_ ?_
           rotate_left
           ·rintro w' ⟨s0,s1,s2,s3⟩
            go_simp
            with_reducible rfl
           rotate_left
           ·simp only [Act.put,List.setIfInBounds_toArray,List.set_cons_zero,List.set_cons_succ,i64_w,i32_w]
            rfl
           refine take_ (i:=3) (N:=some 64) (v:=?_) (a':=?_) #[true,true,true,true,true,false,false,false,false,false,true,false,false,false,false,false] rfl rfl (take_ofW HT_.out HW_.out (by kernel_rfl)) (fun _ _ _ h=>h) (Or.inl ⟨by rfl,?_⟩) hHeld ?_ ?_
           rotate_left
           ·rintro w' ⟨s0,s1,s2,s3⟩
            go_simp
            with_reducible rfl
           rotate_left
           ·simp only [Act.put,List.setIfInBounds_toArray,List.set_cons_zero,List.set_cons_succ,i64_w,i32_w]
            rfl
           refine take_ (i:=5) (N:=some 66) (v:=?_) (a':=?_) #[true,true,true,true,true,true,false,false,false,false,true,false,false,false,false,false] rfl rfl (take_ofW HT_.out HW_.out (by kernel_rfl)) (fun _ _ _ h=>h) (Or.inl ⟨by rfl,?_⟩) hHeld ?_ ?_
           rotate_left
           ·rintro w' ⟨s0,s1,s2,s3⟩
            go_simp
            with_reducible rfl
           rotate_left
           ·simp only [Act.put,List.setIfInBounds_toArray,List.set_cons_zero,List.set_cons_succ,i64_w,i32_w]
            rfl
           refine pure_ (i:=6) (N:=some 67) (v:=?_) (a':=?_) #[true,true,true,true,true,true,true,false,false,false,true,false,false,false,false,false] rfl rfl (any_of HT_.out (by kernel_rfl)) (fun _ _ _ h=>h) (Or.inl ⟨by rfl,?_⟩) ?_ ?_
           rotate_left
           ·intro w'
            go_simp
            with_reducible rfl
           rotate_left
           ·simp only [Act.put,List.setIfInBounds_toArray,List.set_cons_zero,List.set_cons_succ,i64_w,i32_w]
            rfl
           refine pure_ (i:=7) (N:=some 68) (v:=?_) (a':=?_) #[true,true,true,true,true,true,true,true,false,false,true,false,false,false,false,false] rfl rfl (any_of HT_.out (by kernel_rfl)) (fun _ _ _ h=>h) (Or.inl ⟨by rfl,?_⟩) ?_ ?_
           rotate_left
           ·intro w'
            go_simp
            with_reducible rfl
           rotate_left
           ·simp only [Act.put,List.setIfInBounds_toArray,List.set_cons_zero,List.set_cons_succ,i64_w,i32_w]
            rfl
           refine pure_ (i:=8) (N:=some 69) (v:=?_) (a':=?_) #[true,true,true,true,true,true,true,true,true,false,true,false,false,false,false,false] rfl rfl (any_of HT_.out (by kernel_rfl)) (fun _ _ _ h=>h) (Or.inl ⟨by rfl,?_⟩) ?_ ?_
           rotate_left
           ·intro w'
            go_simp
            with_reducible rfl
           rotate_left
           ·simp only [Act.put,List.setIfInBounds_toArray,List.set_cons_zero,List.set_cons_succ,i64_w,i32_w]
            rfl
           refine pure_ (i:=9) (N:=some 70) (v:=?_) (a':=?_) #[true,true,true,true,true,true,true,true,true,true,true,false,false,false,false,false] rfl rfl (any_of HT_.out (by kernel_rfl)) (fun _ _ _ h=>h) (Or.inl ⟨by rfl,?_⟩) ?_ ?_
           rotate_left
           ·intro w'
            go_simp
            with_reducible rfl
           rotate_left
           ·simp only [Act.put,List.setIfInBounds_toArray,List.set_cons_zero,List.set_cons_succ,i64_w,i32_w]
            rfl
           refine one_ (i:=11) (N:=some 72) #[true,true,true,true,true,true,true,true,true,true,true,true,false,false,false,false] rfl rfl (one_of HT_.out (by kernel_rfl)) (by decide) (fun K hK=>?_)
           refine goes_ Tryd.func40 (by kernel_rfl) rfl #[.string a0_0, .slice A0_1 (l0_1.take ((ji47):Int).toNat).length c0_1, .string t539] (by rfl) rfl rfl (by (try simp only [List.map_toArray,List.map_cons,List.map_nil]);first|done|(rw [show (l0_1.take ((ji47):Int).toNat).length = (ji47).toNat from (by rw [List.length_take];have h_:((ji47):Int) ≤ (l0_1.length:Int):=oD (by assumption);omega)] <;> rfl)|(simp only [hji47];rfl)|rfl|(simp only [List.length_drop,List.length_take];rfl)|(simp [Act.eval,Array.getD_eq_getD_getElem?];done)) ?_
           with_reducible refine (impl_readWay.calls kj2 a0_0 _ _ (l0_1.take ((ji47):Int).toNat) t539 t568 t569 t572 t573 t574 _ ?side1 ?side2 A50.out).mono ?_
           (case side1=>repeat (first|exact (Kd.C_below HR567.out HB.out)|(with_reducible refine bC ?_)))
           (case side2=>exact HC567.out)
           rintro e w53 ⟨v570,rfl,ho0,hb⟩
           refine ⟨_,rfl,?_⟩
           have n0_:=Am (Kd.R_lower ho0 (bU (by repeat (first|(with_reducible first|exact HB.out|apply bA|apply bN|apply bD|refine bS ?_ GE536.out|refine bS ?_ GE537.out)|exact HB.out))))
           have n1_:=Am (blk_below (bB BK536.out) hb)
           have n2_:=Am (blk_below (bB BK537.out) hb)
           have n3_:=Am (bT (by repeat (first|(with_reducible first|exact HB.out|apply bA|apply bN|apply bD|refine bS ?_ GE536.out|refine bS ?_ GE537.out)|exact HB.out)) hb)
           clear BK536
           clear BK537
           clear HB
           have HO571:=n0_
           have BK536:=n1_
           have BK537:=n2_
           have HB:=n3_
           clear n0_ n1_ n2_ n3_
           (try clear hb)
           (try clear hb2)
           (try clear hk)
           (try clear hi)
           (try clear ho0)
           obtain ⟨Ao55,co55,eo55⟩:=Kd.R_slice HO571.out
           (first|subst eo55|(injection eo55 with f1_ f2_ f3_;have f4_:=f1_.symm;have f5_:=f3_.symm;clear f1_ f2_ f3_;subst f4_;subst f5_))
           refine hK.out _ _ ⟨bM BK536.out 0 rfl,bM BK536.out 1 rfl,bM BK536.out 2 rfl,bM BK536.out 3 rfl⟩ (fun hHeld=>?_)
           clear hK K
           refine norm_ (a':=?_) ?_ ?_
           rotate_left
           ·show Act.put _ (some 72) _ = _
            simp only [Act.put,List.setIfInBounds_toArray,List.set_cons_zero,List.set_cons_succ,i64_w,i32_w]
            rfl
           refine pure_ (i:=12) (N:=some 73) (v:=?_) (a':=?_) #[true,true,true,true,true,true,true,true,true,true,true,true,true,false,false,false] rfl rfl (any_of HT_.out (by kernel_rfl)) (fun _ _ _ h=>h) (Or.inl ⟨by rfl,?_⟩) ?_ ?_
           rotate_left
           ·intro w'
            go_simp
            with_reducible rfl
           rotate_left
           ·simp only [Act.put,List.setIfInBounds_toArray,List.set_cons_zero,List.set_cons_succ,i64_w,i32_w]
            rfl
           refine pure_ (i:=13) (N:=some 74) (v:=?_) (a':=?_) #[true,true,true,true,true,true,true,true,true,true,true,true,true,true,false,false] rfl rfl (any_of HT_.out (by kernel_rfl)) (fun _ _ _ h=>h) (Or.inl ⟨by rfl,?_⟩) ?_ ?_
           rotate_left
           ·intro w'
            go_simp
            with_reducible rfl
           rotate_left
           ·simp only [Act.put,List.setIfInBounds_toArray,List.set_cons_zero,List.set_cons_succ,i64_w,i32_w]
            rfl
           refine one_ (i:=14) (N:=none) #[true,true,true,true,true,true,true,true,true,true,true,true,true,true,true,false] rfl rfl (one_of HT_.out (by kernel_rfl)) (by decide) (fun K hK=>?_)
           have hs54:w53.cell? ⟨gb537,0,none⟩ = some (.string (⟨#[]⟩:ByteArray)):=bM BK537.out 0 rfl
           have hfs54:=bZ BK537.out 0
           have hns54_0:=NB536_537.out
           have hms54_0:=NB537_536.out
           have hs56:w53.cell? ⟨gb537,1,none⟩ = some (.slice none 0 0):=bM BK537.out 1 rfl
           have hfs56:=bZ BK537.out 1
           have hns56_0:=NB536_537.out
           have hms56_0:=NB537_536.out
           have hs57:w53.cell? ⟨gb537,2,none⟩ = some (.bool false):=bM BK537.out 2 rfl
           have hfs57:=bZ BK537.out 2
           have hns57_0:=NB536_537.out
           have hms57_0:=NB537_536.out
           have hs58:w53.cell? ⟨gb537,3,none⟩ = some (.string (⟨#[]⟩:ByteArray)):=bM BK537.out 3 rfl
           have hfs58:=bZ BK537.out 3
           have hns58_0:=NB536_537.out
           have hms58_0:=NB537_536.out
           refine skip_ (w1:=?_) (by rfl) rfl ?_ ?_
           rotate_left
           ·go_simp
            rfl
           refine hK.out _ _ ⟨((cell_far (p:=⟨gb537,_,none⟩) NB536_537.out _).trans (((cell_far (p:=⟨gb537,_,none⟩) NB536_537.out _).trans (((cell_far (p:=⟨gb537,_,none⟩) NB536_537.out _).trans (((cell_far (p:=⟨gb537,_,none⟩) NB536_537.out _).trans (hHeld.1)))))))),((cell_far (p:=⟨gb537,_,none⟩) NB536_537.out _).trans (((cell_far (p:=⟨gb537,_,none⟩) NB536_537.out _).trans (((cell_far (p:=⟨gb537,_,none⟩) NB536_537.out _).trans (((cell_far (p:=⟨gb537,_,none⟩) NB536_537.out _).trans (hHeld.2.1)))))))),((cell_far (p:=⟨gb537,_,none⟩) NB536_537.out _).trans (((cell_far (p:=⟨gb537,_,none⟩) NB536_537.out _).trans (((cell_far (p:=⟨gb537,_,none⟩) NB536_537.out _).trans (((cell_far (p:=⟨gb537,_,none⟩) NB536_537.out _).trans (hHeld.2.2.1)))))))),((cell_far (p:=⟨gb537,_,none⟩) NB536_537.out _).trans (((cell_far (p:=⟨gb537,_,none⟩) NB536_537.out _).trans (((cell_far (p:=⟨gb537,_,none⟩) NB536_537.out _).trans (((cell_far (p:=⟨gb537,_,none⟩) NB536_537.out _).trans (hHeld.2.2.2))))))))⟩ (fun hHeld=>?_)
           clear hK K
           refine pure_ (i:=15) (N:=some 5) (v:=?_) (a':=?_) #[true,true,true,true,true,true,true,true,true,true,true,true,true,true,true,true] rfl rfl (any_of HT_.out (by kernel_rfl)) (fun _ _ _ h=>h) (Or.inl ⟨by rfl,?_⟩) ?_ ?_
           rotate_left
           ·intro w'
            go_simp
            with_reducible rfl
           rotate_left
           ·simp only [Act.put,List.setIfInBounds_toArray,List.set_cons_zero,List.set_cons_succ,i64_w,i32_w]
            rfl
           refine done_ (done_of HT_.out (by kernel_rfl)) ?_
           try go_wp2
           refine bodyPost_ret (results_ct rfl _ _ gb537 25 #[.string t568, .slice Ao55 t569.length co55, .bool t572, .string t573] (0,0) _ rfl (by refine bB ?_;apply bP;refine bB ?_;exact BK537.out) Tryd.underlying25 rfl (by kernel_rfl)) rfl ?_
           exact ⟨_,by first|rfl|(simp <;> rfl)|(simp only [← hji47];first|rfl|(simp <;> rfl))|(simp [*] <;> rfl),by (with_reducible repeat (first|apply rA|apply rN|apply rD));exact Kd.R_mono (Kd.R_far (p:=⟨gb537,3,none⟩) (Kd.R_far (p:=⟨gb537,2,none⟩) (Kd.R_far (p:=⟨gb537,1,none⟩) (Kd.R_far (p:=⟨gb537,0,none⟩) (Kd.R_types HO571.out BK537.out (by decide)) (fun _ hk=>hk.2) (.string t568)) (fun _ hk=>hk.2) (.slice Ao55 t569.length co55)) (fun _ hk=>hk.2) (.bool t572)) (fun _ hk=>hk.2) (.string t573)) (fun _ hk=>trivial),by repeat (first|(with_reducible first|exact HB.out|apply bA|apply bN|apply bD|refine bS ?_ GE536.out|refine bS ?_ GE537.out)|exact HB.out)⟩
          ·rw [if_neg c49] at H
           exact absurd H (by simp)
         ·rw [if_neg c48] at H
          exact absurd H (by simp)
      ·rw [if_neg c30] at H
       exact absurd H (by simp)

end Go.Proofs.YtbnnamjaljohiaaDoor.P
