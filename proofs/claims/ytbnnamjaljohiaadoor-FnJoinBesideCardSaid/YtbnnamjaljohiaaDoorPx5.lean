-- Written by a program of this session (patch_print.py over the kit's print; given texts in wip/given).
-- Cut down by a program of this session (wip/tools/prune.py) to what its claim can name.
import Derived.Test.YtbnnamjaljohiaaDoorSq
import Derived.Test.YtbnnamjaljohiaaDoorPx0
import Derived.Test.YtbnnamjaljohiaaDoorPx2
import Derived.Test.YtbnnamjaljohiaaDoorPx3
namespace Go.Proofs.YtbnnamjaljohiaaDoor.P
open Go.RowKit Go.Proofs.YtbnnamjaljohiaaDoorW.PrintWords Go.Proofs.YtbnnamjaljohiaaDoorW.PrintLast Go.Proofs.YtbnnamjaljohiaaDoorW.PrintMore
attribute [local go_sem] max2_int min2_int max_two min_two max_three min_three max_four min_four   -- for this text's walks alone
set_option linter.unusedVariables false
set_option linter.unusedSimpArgs false
set_option maxHeartbeats 8000000
set_option maxRecDepth 100000

def spec_l1Up.f (a0_0:ByteArray) (l0_1:List ByteArray) (a0_2:Bool) (a0_3:ByteArray):Option (ByteArray × List ByteArray × Bool × ByteArray):=(some (([]:List ByteArray):List ByteArray)).bind fun y329=>(if 0 ≤ (mx (wrap64 ((l0_1.length:Int) - 1)) 0) then (if (mx (wrap64 ((l0_1.length:Int) - 1)) 0) ≤ (l0_1.length:Int) then (if y329.length + (l0_1.take ((mx (wrap64 ((l0_1.length:Int) - 1)) 0):Int).toNat).length < 8796093022208 then (some (a0_0,(y329 ++ (l0_1.take ((mx (wrap64 ((l0_1.length:Int) - 1)) 0):Int).toNat)),false,(⟨#[]⟩:ByteArray))) else (none)) else (none)) else (none))
def spec_l1Up.T1:Bool × List (List Nat × List Nat):=(true,[([],[]),([0],[0]),([],[]),([],[]),([3],[3]),([],[]),([5],[5]),([6],[6]),([7],[7]),([8],[8]),([4,9],[4,9]),([2,10],[2,10]),([1,11],[1,11]),([12,11,0,1,2,3,4,5,6,7,8,9,10,11,12],[12])])
def spec_l1Up.B1:List Nat:=[0,1,0,0,8,0,32,96,224,480,1016,2044,4095,8191]
theorem spec_l1Up.tab1:rtab .any (opsOf Tryd.f35 1) = spec_l1Up.T1:=by kernel_rfl
theorem spec_l1Up.bits1:waitsOk spec_l1Up.T1.2 spec_l1Up.B1 = true:=by kernel_rfl
theorem spec_l1Up.calls (a0_0:ByteArray) (A0_1:Option Addr) (c0_1:Nat) (l0_1:List ByteArray) (a0_2:Bool) (a0_3:ByteArray) (r1:ByteArray) (r2:List ByteArray) (r3:Bool) (r4:ByteArray) (w:World) (hr0_1:Kd.C Kd.string w A0_1 l0_1.length l0_1) (hc0_1:l0_1.length ≤ c0_1) (h:spec_l1Up.f a0_0 l0_1 a0_2 a0_3 = some (r1,r2,r3,r4)) :
  Calls Tryd.prog 35 #[.agg #[.string a0_0, .slice A0_1 l0_1.length c0_1, .bool a0_2, .string a0_3]] w fun e w'=>∃ v1_:Value,e = .returned (.agg #[.string r1,v1_, .bool r3, .string r4]) ∧ Kd.R Kd.string 9 w' w.heap.size (fun _=>True) v1_ r2 ∧ Below w.heap.size w w':=by
 have hu25:=Tryd.underlying25
 have HR0_1:=Am hr0_1
 have HC0_1:=Am hc0_1
 clear hr0_1 hc0_1
 have HB:=Am (Below.refl w.heap.size w)
 have H:((some (([]:List ByteArray):List ByteArray)).bind fun y329=>(if 0 ≤ (mx (wrap64 ((l0_1.length:Int) - 1)) 0) then (if (mx (wrap64 ((l0_1.length:Int) - 1)) 0) ≤ (l0_1.length:Int) then (if y329.length + (l0_1.take ((mx (wrap64 ((l0_1.length:Int) - 1)) 0):Int).toNat).length < 8796093022208 then (some (a0_0,(y329 ++ (l0_1.take ((mx (wrap64 ((l0_1.length:Int) - 1)) 0):Int).toNat)),false,(⟨#[]⟩:ByteArray))) else (none)) else (none)) else (none))) = some (r1,r2,r3,r4):=h
 clear h
 obtain ⟨y329,hy329⟩:∃ y_:List ByteArray,y_ = (([]:List ByteArray)):=⟨_,rfl⟩
 replace H:(if 0 ≤ (mx (wrap64 ((l0_1.length:Int) - 1)) 0) then (if (mx (wrap64 ((l0_1.length:Int) - 1)) 0) ≤ (l0_1.length:Int) then (if y329.length + (l0_1.take ((mx (wrap64 ((l0_1.length:Int) - 1)) 0):Int).toNat).length < 8796093022208 then (some (a0_0,(y329 ++ (l0_1.take ((mx (wrap64 ((l0_1.length:Int) - 1)) 0):Int).toNat)),false,(⟨#[]⟩:ByteArray))) else (none)) else (none)) else (none)) = some (r1,r2,r3,r4):=by first|(rw [hy329];with_reducible exact H)|(have H2_:=(Option.bind_some _ _).symm.trans H;rw [hy329];with_reducible exact H2_)|(have H2_:=(Option.bind_some _ _).symm.trans H;with_reducible exact H2_)|with_reducible exact H|(rw [hy329];exact H)|exact H
 have Ny329:=Am hy329
 clear hy329
 obtain ⟨ji2,hji2⟩:∃ j_:Int,(mx (wrap64 ((l0_1.length:Int) - 1)) 0) = j_:=⟨_,rfl⟩
 replace H:(if 0 ≤ (ji2) then (if (ji2) ≤ (l0_1.length:Int) then (if y329.length + (l0_1.take ((ji2):Int).toNat).length < 8796093022208 then (some (a0_0,(y329 ++ (l0_1.take ((ji2):Int).toNat)),false,(⟨#[]⟩:ByteArray))) else (none)) else (none)) else (none)) = some (r1,r2,r3,r4):=by first|(rw [hji2] at H;exact H)|(simp only [hji2] at H ⊢;exact H)
 (try (have hji2l:0 ≤ ji2:=by (rw [← hji2];unfold mx;(repeat' split) <;> omega)))
 (try (have hji2m:0 ≤ ji2:=by omega))
 have hji2_:(if (wrap64 ((l0_1.length:Int) - 1)) < 0 then 0 else (wrap64 ((l0_1.length:Int) - 1))) = ji2:=hji2
 by_cases c3:0 ≤ (ji2)
 ·rw [if_pos c3] at H
  have c3b0:=eq_true c3
  have c3b1:=decide_eq_true c3
  clear c3
  by_cases c4:(ji2) ≤ (l0_1.length:Int)
  ·rw [if_pos c4] at H
   have c4b0:=eq_true c4
   have c4b1:=decide_eq_true c4
   clear c4
   by_cases c5:y329.length + (l0_1.take ((ji2):Int).toNat).length < 8796093022208
   ·rw [if_pos c5] at H
    have LMc5:=Am c5
    clear c5
    obtain ⟨y333,hy333⟩:∃ y_:List ByteArray,y_ = (y329 ++ (l0_1.take ((ji2):Int).toNat)):=⟨_,rfl⟩
    replace H:(some (a0_0,y333,false,(⟨#[]⟩:ByteArray))) = some (r1,r2,r3,r4):=by first|(rw [hy333];with_reducible exact H)|(have H2_:=(Option.bind_some _ _).symm.trans H;rw [hy333];with_reducible exact H2_)|(have H2_:=(Option.bind_some _ _).symm.trans H;with_reducible exact H2_)|with_reducible exact H|(rw [hy333];exact H)|exact H
    have Ny333:=Am hy333
    clear hy333
    simp only [Option.some.injEq,Prod.mk.injEq] at H
    obtain ⟨rfl,rfl,rfl,rfl⟩:=H
    go_enter Tryd.func35,Tryd.ntmps35
    try go_wp2_with (first|((with_reducible refine gate_dst (N:=1) rfl ?_);refine box_event ?hg (N:=1) ?hd (cs:=#[.string a0_0, .slice A0_1 l0_1.length c0_1, .bool a0_2, .string a0_3]) (t:=25) ?hr ?_;(case hd=>rfl);(case hg=>rfl);(case hr=>(go_simp <;> rfl));intro gb327 hg w6 hbox hb;have n0_:=Am (bT (by repeat (first|(with_reducible first|exact HB.out|apply bA|apply bN|apply bD)|exact HB.out)) hb);have n1_:=Am (hbox);have n2_:=Am ((by rw [hg];exact (bU (by repeat (first|(with_reducible first|exact HB.out|apply bA|apply bN|apply bD)|exact HB.out))):w.heap.size ≤ gb327));have n3_:=n2_;clear HB;have HB:=n0_;have BK327:=n1_;have GW327:=n2_;have GE327:=n3_;clear n0_ n1_ n2_ n3_ hb hbox hg)|((with_reducible refine gate_dst (N:=2) rfl ?_);refine box_event ?hg (N:=2) ?hd (cs:=#[.string (⟨#[]⟩:ByteArray), .slice none 0 0, .bool false, .string (⟨#[]⟩:ByteArray)]) (t:=25) ?hr ?_;(case hd=>rfl);(case hg=>rfl);(case hr=>(go_simp <;> rfl));intro gb328 hg w7 hbox hb;have n0_:=Am (blk_below (bB BK327.out) hb);have n1_:=Am (bT (by repeat (first|(with_reducible first|exact HB.out|apply bA|apply bN|apply bD|refine bS ?_ GE327.out)|exact HB.out)) hb);have n2_:=Am (hbox);have n3_:=Am ((by rw [hg];exact (bU (by repeat (first|(with_reducible first|exact HB.out|apply bA|apply bN|apply bD|refine bS ?_ GE327.out)|exact HB.out))):w.heap.size ≤ gb328));have n4_:=n3_;have n5_:=Am ((by rw [hg];exact Nat.ne_of_lt (blk_lt (bB BK327.out)):gb327 ≠ gb328));have n6_:=Am ((by rw [hg];exact Nat.ne_of_gt (blk_lt (bB BK327.out)):gb328 ≠ gb327));clear BK327 HB;have BK327:=n0_;have HB:=n1_;have BK328:=n2_;have GW328:=n3_;have GE328:=n4_;have NB327_328:=n5_;have NB328_327:=n6_;clear n0_ n1_ n2_ n3_ n4_ n5_ n6_ hb hbox hg))
    have n0_:=Am (blk_drew BK327.out)
    have n1_:=Am (blk_drew BK328.out)
    have n2_:=Am (below_drew1 HB.out)
    clear BK327
    clear BK328
    clear HB
    have BK327:=n0_
    have BK328:=n1_
    have HB:=n2_
    clear n0_ n1_ n2_
    obtain ⟨i09,hi09,_,hsz9,_⟩:=info_parts info9
    obtain ⟨hcut9,hA9,hC9⟩:=print_take_of (P:=Tryd.prog) Value.string (⟨#[]⟩:ByteArray) 23 9 .i64 Tryd.underlying23 hi09 hsz9 A0_1 c0_1 l0_1 (ji2) (oD (by assumption)) (oD (by assumption)) HC0_1.out
    have HR332:=Am (Kd.C_of_reads (h1:=fun _=>rfl) (hA9 _ (Kd.reads_of_C HR0_1.out)))
    have HC332:=Am hC9
    clear hA9 hC9 hi09 hsz9
    refine start_ (n:=14) (S:=fun w'=>w'.cell? ⟨gb327,0,none⟩ = some (.string a0_0) ∧ w'.cell? ⟨gb327,1,none⟩ = some (.slice A0_1 l0_1.length c0_1) ∧ w'.cell? ⟨gb327,2,none⟩ = some (.bool a0_2) ∧ w'.cell? ⟨gb327,3,none⟩ = some (.string a0_3)) (ds:=[]) #[false,false,false,false,false,false,false,false,false,false,false,false,false,false] (by kernel_rfl) rfl rfl ⟨bM BK327.out 0 rfl,bM BK327.out 1 rfl,bM BK327.out 2 rfl,bM BK327.out 3 rfl⟩ (fun hHeld=>?_);refine with_tabW spec_l1Up.tab1 spec_l1Up.bits1 (fun HT_ HW_=>?_)
    generalize w7.drew = w8 at BK327 BK328 HB HR332 hHeld ⊢
    refine pure_ (i:=0) (N:=some 3) (v:=?_) (a':=?_) #[true,false,false,false,false,false,false,false,false,false,false,false,false,false] rfl rfl (any_of HT_.out (by kernel_rfl)) (fun _ _ _ h=>h) (Or.inl ⟨by rfl,?_⟩) ?_ ?_
    rotate_left
    ·intro w'
     go_simp
     with_reducible rfl
    rotate_left
    ·simp only [Act.put,lT,lZ,lS,i64_w,i32_w]
     rfl
    refine pure_ (i:=3) (N:=some 6) (v:=?_) (a':=?_) #[true,false,false,true,false,false,false,false,false,false,false,false,false,false] rfl rfl (any_of HT_.out (by kernel_rfl)) (fun _ _ _ h=>h) (Or.inl ⟨by rfl,?_⟩) ?_ ?_
    rotate_left
    ·intro w'
     go_simp
     with_reducible rfl
    rotate_left
    ·simp only [Act.put,lT,lZ,lS,i64_w,i32_w]
     rfl
    refine pure_ (i:=5) (N:=some 8) (v:=?_) (a':=?_) #[true,false,false,true,false,true,false,false,false,false,false,false,false,false] rfl rfl (any_of HT_.out (by kernel_rfl)) (fun _ _ _ h=>h) (Or.inl ⟨by rfl,?_⟩) ?_ ?_
    rotate_left
    ·intro w'
     go_simp
     with_reducible rfl
    rotate_left
    ·simp only [Act.put,lT,lZ,lS,i64_w,i32_w]
     rfl
    refine take_ (i:=1) (N:=some 4) (v:=?_) (a':=?_) #[true,true,false,true,false,true,false,false,false,false,false,false,false,false] rfl rfl (take_ofW HT_.out HW_.out (by kernel_rfl)) (fun _ _ _ h=>h) (Or.inl ⟨by rfl,?_⟩) hHeld ?_ ?_
    rotate_left
    ·rintro w' ⟨s0,s1,s2,s3⟩
     go_simp
     with_reducible rfl
    rotate_left
    ·simp only [Act.put,lT,lZ,lS,i64_w,i32_w]
     rfl
    refine take_ (i:=4) (N:=some 7) (v:=?_) (a':=?_) #[true,true,false,true,true,true,false,false,false,false,false,false,false,false] rfl rfl (take_ofW HT_.out HW_.out (by kernel_rfl)) (fun _ _ _ h=>h) (Or.inl ⟨by rfl,?_⟩) hHeld ?_ ?_
    rotate_left
    ·rintro w' ⟨s0,s1,s2,s3⟩
     go_simp
     with_reducible rfl
    rotate_left
    ·simp only [Act.put,lT,lZ,lS,i64_w,i32_w]
     rfl
    refine take_ (i:=6) (N:=some 9) (v:=?_) (a':=?_) #[true,true,false,true,true,true,true,false,false,false,false,false,false,false] rfl rfl (take_ofW HT_.out HW_.out (by kernel_rfl)) (fun _ _ _ h=>h) (Or.inl ⟨by rfl,?_⟩) hHeld ?_ ?_
    rotate_left
    ·rintro w' ⟨s0,s1,s2,s3⟩
     go_simp
     with_reducible rfl
    rotate_left
    ·simp only [Act.put,lT,lZ,lS,i64_w,i32_w]
     rfl
    refine pure_ (i:=7) (N:=some 10) (v:=?_) (a':=?_) #[true,true,false,true,true,true,true,true,false,false,false,false,false,false] rfl rfl (any_of HT_.out (by kernel_rfl)) (fun _ _ _ h=>h) (Or.inl ⟨by rfl,?_⟩) ?_ ?_
    rotate_left
    ·intro w'
     go_simp
     with_reducible rfl
    rotate_left
    ·simp only [Act.put,lT,lZ,lS,i64_w,i32_w]
     rfl
    refine pure_ (i:=8) (N:=some 11) (v:=?_) (a':=?_) #[true,true,false,true,true,true,true,true,true,false,false,false,false,false] rfl rfl (any_of HT_.out (by kernel_rfl)) (fun _ _ _ h=>h) (Or.inl ⟨by rfl,?_⟩) ?_ ?_
    rotate_left
    ·intro w'
     go_simp
     with_reducible rfl
    rotate_left
    ·simp only [Act.put,lT,lZ,lS,i64_w,i32_w]
     rfl
    refine pure_ (i:=9) (N:=some 12) (v:=?_) (a':=?_) #[true,true,false,true,true,true,true,true,true,true,false,false,false,false] rfl rfl (any_of HT_.out (by kernel_rfl)) (fun _ _ _ h=>h) (Or.inl ⟨by rfl,?_⟩) ?_ ?_
    rotate_left
    ·intro w'
     go_simp
     with_reducible rfl
    rotate_left
    ·simp only [Act.put,lT,lZ,lS,i64_w,i32_w]
     rfl
    refine pure_ (i:=10) (N:=some 13) (v:=?_) (a':=?_) #[true,true,false,true,true,true,true,true,true,true,true,false,false,false] rfl rfl (any_of HT_.out (by kernel_rfl)) (fun _ _ _ h=>h) (Or.inl ⟨by rfl,?_⟩) ?_ ?_
    rotate_left
    ·intro w'
     go_simp
     with_reducible rfl
    rotate_left
    ·simp only [Act.put,lT,lZ,lS,i64_w,i32_w]
     rfl
    refine one_ (i:=2) (N:=some 5) #[true,true,true,true,true,true,true,true,true,true,true,false,false,false] rfl rfl (one_of HT_.out (by kernel_rfl)) (by decide) (fun K hK=>?_)
    refine Kd.R_lit_step Kd.string _ 9 ?hg (N:=5) ?hd (xs:=([]:List ByteArray)) (inner:=[]) (ok:=fun _=>True) (okp:=fun _=>True) ?hr ?hp (fun _ hk=>hk) trivial (Below.refl _ _) (Nat.le_refl _) (by simp) ?_;(case hd=>rfl);(case hg=>rfl);(case hr=>(go_simp <;> rfl));(case hp=>exact (Reps.none _ _))
    intro v330 w10 ho11 hb hg_ hnew_
    clear hg_ hnew_
    (first|rw [← Ny329.out] at ho11|(simp only [Int.reduceToNat] at ho11;rw [← Ny329.out] at ho11))
    have n0_:=Am (Kd.R_lower ho11 (bU (by repeat (first|(with_reducible first|exact HB.out|apply bA|apply bN|apply bD|refine bS ?_ GE327.out|refine bS ?_ GE328.out)|exact HB.out))))
    have n1_:=Am (blk_below (bB BK327.out) hb)
    have n2_:=Am (blk_below (bB BK328.out) hb)
    have n3_:=Am (bT (by repeat (first|(with_reducible first|exact HB.out|apply bA|apply bN|apply bD|refine bS ?_ GE327.out|refine bS ?_ GE328.out)|exact HB.out)) hb)
    clear BK327
    clear BK328
    clear HB
    have HO331:=n0_
    have BK327:=n1_
    have BK328:=n2_
    have HB:=n3_
    clear n0_ n1_ n2_ n3_
    clear hb ho11
    refine hK.out _ _ ⟨bM BK327.out 0 rfl,bM BK327.out 1 rfl,bM BK327.out 2 rfl,bM BK327.out 3 rfl⟩ (fun hHeld=>?_)
    clear hK K
    refine norm_ (a':=?_) ?_ ?_
    rotate_left
    ·show Act.put _ (some 5) _ = _
     simp only [Act.put,lT,lZ,lS,i64_w,i32_w]
     rfl
    refine one_ (i:=11) (N:=some 14) #[true,true,true,true,true,true,true,true,true,true,true,true,false,false] rfl rfl (one_of HT_.out (by kernel_rfl)) (by decide) (fun K hK=>?_)
    refine Kd.R_append_rows_step Kd.string (w0:=w) w.heap.size (by rfl) (.tmp 5) (.tmp 13) 23 9 (.string ⟨#[]⟩) 16 rfl Tryd.underlying23 info9 rfl (by decide) (by omega) v330 y329 (l0_1.take ((ji2):Int).toNat) _ _ _ (fun _=>True) (fun _=>False) rfl rfl ?aO ?aR (fun _ _ h=>h) (fun _ h=>h.elim) ?aF ?aB ?aS ?aL ?_
    (case aR=>first|(rw [← show (l0_1.take ((ji2):Int).toNat).length = (ji2).toNat from (by rw [List.length_take];have h_:((ji2):Int) ≤ (l0_1.length:Int):=oD (by assumption);omega)];(repeat (first|exact (Kd.C_below HR332.out HB.out)|(with_reducible refine bC ?_)));done)|(have e_:=(show (l0_1.take ((ji2):Int).toNat).length = (ji2).toNat from (by rw [List.length_take];have h_:((ji2):Int) ≤ (l0_1.length:Int):=oD (by assumption);omega));have h_:=(Kd.C_below HR332.out HB.out);rw [e_] at h_;(try rw [e_]);(repeat (first|exact h_|(with_reducible refine bC ?_)));done)|(repeat (first|exact (Kd.C_below HR332.out HB.out)|(with_reducible refine bC ?_))))
    (case aB=>exact (by repeat (first|(with_reducible first|exact HB.out|apply bA|apply bN|apply bD|refine bS ?_ GE327.out|refine bS ?_ GE328.out)|exact HB.out)))
    (case aF=>exact (fun _ _=>trivial))
    (case aO=>exact (bR HO331.out))
    (case aS=>exact (bU (by repeat (first|(with_reducible first|exact HB.out|apply bA|apply bN|apply bD|refine bS ?_ GE327.out|refine bS ?_ GE328.out)|exact HB.out))))
    (case aL=>have:=LMc5.out;have hlx_:=(show (l0_1.take ((ji2):Int).toNat).length = (ji2).toNat from (by rw [List.length_take];have h_:((ji2):Int) ≤ (l0_1.length:Int):=oD (by assumption);omega));omega)
    intro v334 w12 ho hb hg hat
    rw [← Ny333.out] at ho
    have n0_:=Am (blk_grown (bB BK327.out) hg (Kd.R_ne HO331.out BK327.out (by decide)))
    have n1_:=Am (blk_grown (bB BK328.out) hg (Kd.R_ne HO331.out BK328.out (by decide)))
    have n2_:=Am (hb)
    have n3_:=Am (ho)
    clear BK327
    clear BK328
    clear HB
    clear HO331
    have BK327:=n0_
    have BK328:=n1_
    have HB:=n2_
    have HO335:=n3_
    clear n0_ n1_ n2_ n3_
    clear ho hb hg hat
    obtain ⟨Ao13,co13,eo13⟩:=Kd.R_slice HO335.out
    (first|subst eo13|(injection eo13 with f1_ f2_ f3_;have f4_:=f1_.symm;have f5_:=f3_.symm;clear f1_ f2_ f3_;subst f4_;subst f5_))
    refine hK.out _ _ ⟨bM BK327.out 0 rfl,bM BK327.out 1 rfl,bM BK327.out 2 rfl,bM BK327.out 3 rfl⟩ (fun hHeld=>?_)
    clear hK K
    refine norm_ (a':=?_) ?_ ?_
    rotate_left
    ·show Act.put _ (some 14) _ = _
     simp only [Act.put,lT,lZ,lS,i64_w,i32_w]
     rfl
    refine pure_ (i:=12) (N:=some 15) (v:=?_) (a':=?_) #[true,true,true,true,true,true,true,true,true,true,true,true,true,false] rfl rfl (any_of HT_.out (by kernel_rfl)) (fun _ _ _ h=>h) (Or.inl ⟨by rfl,?_⟩) ?_ ?_
    rotate_left
    ·intro w'
     go_simp
     with_reducible rfl
    rotate_left
    ·simp only [Act.put,lT,lZ,lS,i64_w,i32_w]
     rfl
    refine one_ (i:=13) (N:=none) #[true,true,true,true,true,true,true,true,true,true,true,true,true,true] rfl rfl (one_of HT_.out (by kernel_rfl)) (by decide) (fun K hK=>?_)
    have hs14:w12.cell? ⟨gb328,0,none⟩ = some (.string (⟨#[]⟩:ByteArray)):=bM BK328.out 0 rfl
    have hfs14:=bZ BK328.out 0
    have hns14_0:=NB327_328.out
    have hms14_0:=NB328_327.out
    have hs15:w12.cell? ⟨gb328,1,none⟩ = some (.slice none 0 0):=bM BK328.out 1 rfl
    have hfs15:=bZ BK328.out 1
    have hns15_0:=NB327_328.out
    have hms15_0:=NB328_327.out
    have hs16:w12.cell? ⟨gb328,2,none⟩ = some (.bool false):=bM BK328.out 2 rfl
    have hfs16:=bZ BK328.out 2
    have hns16_0:=NB327_328.out
    have hms16_0:=NB328_327.out
    have hs17:w12.cell? ⟨gb328,3,none⟩ = some (.string (⟨#[]⟩:ByteArray)):=bM BK328.out 3 rfl
    have hfs17:=bZ BK328.out 3
    have hns17_0:=NB327_328.out
    have hms17_0:=NB328_327.out
    refine skip_ (w1:=?_) (by rfl) rfl ?_ ?_
    rotate_left
    ·go_simp
     rfl
    refine hK.out _ _ ⟨((cell_far (p:=⟨gb328,_,none⟩) NB327_328.out _).trans (((cell_far (p:=⟨gb328,_,none⟩) NB327_328.out _).trans (((cell_far (p:=⟨gb328,_,none⟩) NB327_328.out _).trans (((cell_far (p:=⟨gb328,_,none⟩) NB327_328.out _).trans (hHeld.1)))))))),((cell_far (p:=⟨gb328,_,none⟩) NB327_328.out _).trans (((cell_far (p:=⟨gb328,_,none⟩) NB327_328.out _).trans (((cell_far (p:=⟨gb328,_,none⟩) NB327_328.out _).trans (((cell_far (p:=⟨gb328,_,none⟩) NB327_328.out _).trans (hHeld.2.1)))))))),((cell_far (p:=⟨gb328,_,none⟩) NB327_328.out _).trans (((cell_far (p:=⟨gb328,_,none⟩) NB327_328.out _).trans (((cell_far (p:=⟨gb328,_,none⟩) NB327_328.out _).trans (((cell_far (p:=⟨gb328,_,none⟩) NB327_328.out _).trans (hHeld.2.2.1)))))))),((cell_far (p:=⟨gb328,_,none⟩) NB327_328.out _).trans (((cell_far (p:=⟨gb328,_,none⟩) NB327_328.out _).trans (((cell_far (p:=⟨gb328,_,none⟩) NB327_328.out _).trans (((cell_far (p:=⟨gb328,_,none⟩) NB327_328.out _).trans (hHeld.2.2.2))))))))⟩ (fun hHeld=>?_)
    clear hK K
    refine done_ (done_of HT_.out (by kernel_rfl)) ?_
    try go_wp2
    refine bodyPost_ret (results_cell_row rfl _ _ gb328 25 #[.string a0_0, .slice Ao13 y333.length co13, .bool false, .string (⟨#[]⟩:ByteArray)] (0,0) _ rfl (by refine bB ?_;apply bP;refine bB ?_;exact BK328.out) Tryd.underlying25 rfl (by kernel_rfl)) rfl ?_
    exact ⟨_,by first|rfl|(simp <;> rfl)|(simp only [← hji2];first|rfl|(simp <;> rfl))|(simp [*] <;> rfl),by (with_reducible repeat (first|apply rA|apply rN|apply rD));exact Kd.R_mono (Kd.R_far (p:=⟨gb328,3,none⟩) (Kd.R_far (p:=⟨gb328,2,none⟩) (Kd.R_far (p:=⟨gb328,1,none⟩) (Kd.R_far (p:=⟨gb328,0,none⟩) (Kd.R_types HO335.out BK328.out (by decide)) (fun _ hk=>hk.2) (.string a0_0)) (fun _ hk=>hk.2) (.slice Ao13 y333.length co13)) (fun _ hk=>hk.2) (.bool false)) (fun _ hk=>hk.2) (.string (⟨#[]⟩:ByteArray))) (fun _ hk=>trivial),by repeat (first|(with_reducible first|exact HB.out|apply bA|apply bN|apply bD|refine bS ?_ GE327.out|refine bS ?_ GE328.out)|exact HB.out)⟩
   ·rw [if_neg c5] at H
    exact absurd H (by simp)
  ·rw [if_neg c4] at H
   exact absurd H (by simp)
 ·rw [if_neg c3] at H
  exact absurd H (by simp)

mutual
def spec_AddrJoin.j0:Nat → ByteArray → Bool → ByteArray → List ByteArray → Bool → ByteArray → Option (ByteArray × List ByteArray × Bool × ByteArray × Bool)
 | 0,_,_,_,_,_,_=>none
 | k + 1,x6,x15,x337000,x337001,x337002,x337003=>if x15 = true then (some ((⟨#[]⟩:ByteArray),([]:List ByteArray),false,(⟨#[]⟩:ByteArray),false)) else (if (x6.size:Int) ≥ 2 then (if 0 ≤ 2 then (if 2 ≤ (x6.size:Int) then (spec_AddrJoin.j1 k x6 ((x6.extract 0 2).toList == ([47,47]:List UInt8)) x337000 x337001 x337002 x337003) else (none)) else (none)) else (spec_AddrJoin.j1 k x6 false x337000 x337001 x337002 x337003))
def spec_AddrJoin.j1:Nat → ByteArray → Bool → ByteArray → List ByteArray → Bool → ByteArray → Option (ByteArray × List ByteArray × Bool × ByteArray × Bool)
 | 0,_,_,_,_,_,_=>none
 | k + 1,x6,x25,x337000,x337001,x337002,x337003=>if x25 = true then (if 2 ≤ (x6.size:Int) then ((spec_l1Whole.f k (x6.extract 2 x6.size)).bind fun bt342=>(some (bt342.1,bt342.2.1,bt342.2.2.1,bt342.2.2.2.1,bt342.2.2.2.2))) else (none)) else (if x6.toList = ([]:List UInt8) then ((some (([]:List ByteArray):List ByteArray)).bind fun y349=>(if y349.length + x337001.length < 8796093022208 then (some (x337000,(y349 ++ x337001),x337002,x337003,true)) else (none))) else (if 0 < (x6.size:Int) then (if (bt x6 0) = 47 then ((spec_l1Way.f k x337000 ([]:List ByteArray) false (⟨#[]⟩:ByteArray) x6).bind fun bt355=>(some (bt355.1,bt355.2.1,bt355.2.2.1,bt355.2.2.2.1,bt355.2.2.2.2))) else (if (bt x6 0) = 63 then ((spec_l1Way.f k x337000 x337001 false (⟨#[]⟩:ByteArray) x6).bind fun bt362=>(some (bt362.1,bt362.2.1,bt362.2.2.1,bt362.2.2.2.1,bt362.2.2.2.2))) else ((spec_l1Up.f x337000 x337001 x337002 x337003).bind fun bt369=>((spec_l1Way.f k bt369.1 bt369.2.1 bt369.2.2.1 bt369.2.2.2 x6).bind fun bt375=>(some (bt375.1,bt375.2.1,bt375.2.2.1,bt375.2.2.2.1,bt375.2.2.2.2)))))) else (none)))
end
def spec_AddrJoin.f (k:Nat) (a0_0:ByteArray) (l0_1:List ByteArray) (a0_2:Bool) (a0_3:ByteArray) (a1:ByteArray):Option (ByteArray × List ByteArray × Bool × ByteArray × Bool):=(spec_l1Cut.f k a1 35).bind fun bt338=>((spec_AddrOk.f k a0_0 l0_1 a0_2 a0_3).bind fun t341=>(if t341 = true then (spec_AddrJoin.j0 k bt338.1 (decide ((a1.size:Int) > 60)) a0_0 l0_1 a0_2 a0_3) else (spec_AddrJoin.j0 k bt338.1 true a0_0 l0_1 a0_2 a0_3)))
theorem spec_AddrJoin.mono_l:∀ k,(∀ y0 y1 y2 y3 y4 y5,LeO (spec_AddrJoin.j0 k y0 y1 y2 y3 y4 y5) (spec_AddrJoin.j0 (k + 1) y0 y1 y2 y3 y4 y5)) ∧ (∀ y0 y1 y2 y3 y4 y5,LeO (spec_AddrJoin.j1 k y0 y1 y2 y3 y4 y5) (spec_AddrJoin.j1 (k + 1) y0 y1 y2 y3 y4 y5))
 | 0=>⟨fun _ _ _ _ _ _ r h=>by simp [spec_AddrJoin.j0] at h,fun _ _ _ _ _ _ r h=>by simp [spec_AddrJoin.j1] at h⟩
 | k + 1=>by
  obtain ⟨ih0,ih1⟩:=spec_AddrJoin.mono_l k
  refine ⟨?_,?_⟩
  ·intro y0 y1 y2 y3 y4 y5
   unfold spec_AddrJoin.j0
   repeat' first
   | (with_reducible apply ih0)
   | (with_reducible apply ih1)
   | (with_reducible apply spec_AddrOk.mono)
   | (with_reducible apply spec_l1Cut.mono)
   | (with_reducible apply spec_l1Way.mono)
   | (with_reducible apply spec_l1Whole.mono)
   | (with_reducible exact LeO.refl _)
   | (with_reducible exact LeO.none _)
   | (with_reducible refine LeO.ite ?_ ?_)
   | (with_reducible refine LeO.bind ?_ (fun _=>?_))









  ·intro y0 y1 y2 y3 y4 y5
   unfold spec_AddrJoin.j1
   repeat' first
   | (with_reducible apply ih0)
   | (with_reducible apply ih1)
   | (with_reducible apply spec_AddrOk.mono)
   | (with_reducible apply spec_l1Cut.mono)
   | (with_reducible apply spec_l1Way.mono)
   | (with_reducible apply spec_l1Whole.mono)
   | (with_reducible exact LeO.refl _)
   | (with_reducible exact LeO.none _)
   | (with_reducible refine LeO.ite ?_ ?_)
   | (with_reducible refine LeO.bind ?_ (fun _=>?_))









theorem spec_AddrJoin.mono:∀ a0 a1 a2 a3 a4 k,LeO (spec_AddrJoin.f k a0 a1 a2 a3 a4) (spec_AddrJoin.f (k + 1) a0 a1 a2 a3 a4):=by
 intro a0 a1 a2 a3 a4 k
 obtain ⟨ih0,ih1⟩:=spec_AddrJoin.mono_l k
 unfold spec_AddrJoin.f
 repeat' first
   | (with_reducible apply ih0)
   | (with_reducible apply ih1)
   | (with_reducible apply spec_AddrOk.mono)
   | (with_reducible apply spec_l1Cut.mono)
   | (with_reducible apply spec_l1Way.mono)
   | (with_reducible apply spec_l1Whole.mono)
   | (with_reducible exact LeO.refl _)
   | (with_reducible exact LeO.none _)
   | (with_reducible refine LeO.ite ?_ ?_)
   | (with_reducible refine LeO.bind ?_ (fun _=>?_))









theorem spec_AddrJoin.calls (k:Nat) (a0_0:ByteArray) (A0_1:Option Addr) (c0_1:Nat) (l0_1:List ByteArray) (a0_2:Bool) (a0_3:ByteArray) (a1:ByteArray) (r1:ByteArray) (r2:List ByteArray) (r3:Bool) (r4:ByteArray) (r5:Bool) (w:World) (hr0_1:Kd.C Kd.string w A0_1 l0_1.length l0_1) (hc0_1:l0_1.length ≤ c0_1) (h:spec_AddrJoin.f k a0_0 l0_1 a0_2 a0_3 a1 = some (r1,r2,r3,r4,r5)) :
  Calls Tryd.prog 12 #[.agg #[.string a0_0, .slice A0_1 l0_1.length c0_1, .bool a0_2, .string a0_3], .string a1] w fun e w'=>∃ v1_:Value,e = .returned (.tuple #[.agg #[.string r1,v1_, .bool r3, .string r4], .bool r5]) ∧ Kd.R Kd.string 9 w' w.heap.size (fun _=>True) v1_ r2 ∧ Below w.heap.size w w':=by
 have hu25:=Tryd.underlying25
 have HR0_1:=Am hr0_1
 have HC0_1:=Am hc0_1
 clear hr0_1 hc0_1
 have HB:=Am (Below.refl w.heap.size w)
 have H:((spec_l1Cut.f k a1 35).bind fun bt338=>((spec_AddrOk.f k a0_0 l0_1 a0_2 a0_3).bind fun t341=>(if t341 = true then (spec_AddrJoin.j0 k bt338.1 (decide ((a1.size:Int) > 60)) a0_0 l0_1 a0_2 a0_3) else (spec_AddrJoin.j0 k bt338.1 true a0_0 l0_1 a0_2 a0_3)))) = some (r1,r2,r3,r4,r5):=h
 clear h
 replace H:=bI H
 obtain ⟨⟨t338,t339,t340⟩,A30,H⟩:=H
 replace H:((spec_AddrOk.f k a0_0 l0_1 a0_2 a0_3).bind fun t341=>(if t341 = true then (spec_AddrJoin.j0 k t338 (decide ((a1.size:Int) > 60)) a0_0 l0_1 a0_2 a0_3) else (spec_AddrJoin.j0 k t338 true a0_0 l0_1 a0_2 a0_3))) = some (r1,r2,r3,r4,r5):=H
 have A3:=Am A30
 clear A30
 have HC4:=Am H
 clear H
 go_enter Tryd.func12,Tryd.ntmps12
 go_upto_region 2 with (first|((with_reducible refine gate_dst (N:=2) rfl ?_);(try (refine gate_guard (by rfl) ?_;dsimp only));refine box_event ?hg (N:=2) ?hd (cs:=#[.string a0_0, .slice A0_1 l0_1.length c0_1, .bool a0_2, .string a0_3]) (t:=25) ?hr ?_;(case hd=>rfl);(case hg=>rfl);(case hr=>(go_simp <;> rfl));intro gb336 hg w5 hbox hb;have n0_:=Am (bT (by repeat (first|(with_reducible first|exact HB.out|apply bA|apply bN|apply bD)|exact HB.out)) hb);have n1_:=Am (hbox);have n2_:=Am ((by rw [hg];exact (bU (by repeat (first|(with_reducible first|exact HB.out|apply bA|apply bN|apply bD)|exact HB.out))):w.heap.size ≤ gb336));have n3_:=n2_;clear HB;have HB:=n0_;have BK336:=n1_;have GW336:=n2_;have GE336:=n3_;clear n0_ n1_ n2_ n3_ hb hbox hg)|((with_reducible refine gate_dst (N:=4) rfl ?_);(try (refine gate_guard (by rfl) ?_;dsimp only));refine box_event ?hg (N:=4) ?hd (cs:=#[.string (⟨#[]⟩:ByteArray), .slice none 0 0, .bool false, .string (⟨#[]⟩:ByteArray)]) (t:=25) ?hr ?_;(case hd=>rfl);(case hg=>rfl);(case hr=>(go_simp <;> rfl));intro gb337 hg w6 hbox hb;have n0_:=Am (blk_below (bB BK336.out) hb);have n1_:=Am (bT (by repeat (first|(with_reducible first|exact HB.out|apply bA|apply bN|apply bD|refine bS ?_ GE336.out)|exact HB.out)) hb);have n2_:=Am (hbox);have n3_:=Am ((by rw [hg];exact (bU (by repeat (first|(with_reducible first|exact HB.out|apply bA|apply bN|apply bD|refine bS ?_ GE336.out)|exact HB.out))):w.heap.size ≤ gb337));have n4_:=n3_;have n5_:=Am ((by rw [hg];exact Nat.ne_of_lt (blk_lt (bB BK336.out)):gb336 ≠ gb337));have n6_:=Am ((by rw [hg];exact Nat.ne_of_gt (blk_lt (bB BK336.out)):gb337 ≠ gb336));clear BK336 HB;have BK336:=n0_;have HB:=n1_;have BK337:=n2_;have GW337:=n3_;have GE337:=n4_;have NB336_337:=n5_;have NB337_336:=n6_;clear n0_ n1_ n2_ n3_ n4_ n5_ n6_ hb hbox hg)|((with_reducible refine gate_callee (f:=32) rfl ?_);refine goesL_ (some 11) rfl rfl Tryd.func32 (by kernel_rfl) rfl #[.string a1, .int .u8 35] rfl (aE2 rfl rfl) ?_;(with_reducible refine (spec_l1Cut.calls k a1 35 t338 t339 t340 _ A3.out).mono ?_);rintro e w' ⟨rfl,⟨nd,rfl⟩⟩;refine ⟨_,rfl,?_⟩))
 (try simp only [Act.put,lT,lZ,lS])
 go_cut [15] (fun v15 wc=>∃ (kq:Nat) (x15_3:Bool),v15 = .bool x15_3 ∧ Aside0 (spec_AddrJoin.j0 kq t338 x15_3 a0_0 l0_1 a0_2 a0_3 = some (r1,r2,r3,r4,r5)) ∧ Aside0 (kq ≤ k) ∧ Aside0 (wc.heap[gb336]? = some (.cells #[.string a0_0,(.slice A0_1 l0_1.length c0_1), .bool a0_2, .string a0_3] 25 (0,0))) ∧ Aside0 (wc.heap[gb337]? = some (.cells #[.string (⟨#[]⟩:ByteArray),(.slice none 0 0), .bool false, .string (⟨#[]⟩:ByteArray)] 25 (0,0))) ∧ Aside0 (Below w.heap.size w wc))
 case first =>
  have H:=HC4.out
  clear HC4
  replace H:=bI H
  obtain ⟨t341,A70,H⟩:=H
  replace H:(if t341 = true then (spec_AddrJoin.j0 k t338 (decide ((a1.size:Int) > 60)) a0_0 l0_1 a0_2 a0_3) else (spec_AddrJoin.j0 k t338 true a0_0 l0_1 a0_2 a0_3)) = some (r1,r2,r3,r4,r5):=H
  have A7:=Am A70
  clear A70
  by_cases c8:t341 = true
  ·subst c8
   have H1:(spec_AddrJoin.j0 k t338 (decide ((a1.size:Int) > 60)) a0_0 l0_1 a0_2 a0_3) = some (r1,r2,r3,r4,r5):=by rw [if_pos rfl] at H;exact H
   clear H
   have H:=H1
   clear H1
   have H':=Am H
   clear H
   have hnb9:=NB336_337.out
   have hnc9:=NB337_336.out
   obtain ⟨hcz10_0,hcz10_1,hcz10_2,hcz10_3,hfz10_0,hfz10_1,hfz10_2,hfz10_3⟩:=bX BK336.out







   go_wp2_with (first|((with_reducible refine gate_callee (f:=15) rfl ?_);refine goesL_ (some 17) rfl rfl Tryd.func15 (by kernel_rfl) rfl #[.agg #[.string a0_0, .slice A0_1 l0_1.length c0_1, .bool a0_2, .string a0_3]] rfl (aE1 rfl) ?_;(with_reducible refine (spec_AddrOk.calls k a0_0 _ _ l0_1 a0_2 a0_3 true _ ?side1 ?side2 A7.out).mono ?_);(case side1=>repeat (first|exact (Kd.C_below HR0_1.out HB.out)|(with_reducible refine bC ?_)));(case side2=>exact HC0_1.out);rintro e w11 ⟨rfl,hb⟩;refine ⟨_,rfl,?_⟩;have n0_:=Am (blk_below (bB BK336.out) hb);have n1_:=Am (blk_below (bB BK337.out) hb);have n2_:=Am (bT (by repeat (first|(with_reducible first|exact HB.out|apply bA|apply bN|apply bD|refine bS ?_ GE336.out|refine bS ?_ GE337.out)|exact HB.out)) hb);clear BK336 BK337 HB;have BK336:=n0_;have BK337:=n1_;have HB:=n2_;clear n0_ n1_ n2_;(try clear hb)))
   go_meet
   case rel=>exact ⟨_,(decide ((a1.size:Int) > 60)),(by first|rfl|(simp;done)|(simp only [i64_w,i32_w] <;> rfl)|(simp [*];done)|(simp [emp_bne,emp_beq];done)),H',⟨by first|omega|exact Nat.le_refl _⟩,⟨by refine bB ?_;exact BK336.out⟩,⟨by refine bB ?_;exact BK337.out⟩,⟨by repeat (first|(with_reducible first|exact HB.out|apply bA|apply bN|apply bD|refine bS ?_ GE336.out|refine bS ?_ GE337.out)|exact HB.out)⟩⟩
  ·replace c8:=Bool.eq_false_iff.mpr c8
   subst c8
   have H1:(spec_AddrJoin.j0 k t338 true a0_0 l0_1 a0_2 a0_3) = some (r1,r2,r3,r4,r5):=by rw [if_neg (show ¬ (false = true) by decide)] at H;exact H
   clear H
   have H:=H1
   clear H1
   have H':=Am H
   clear H
   have hnb12:=NB336_337.out
   have hnc12:=NB337_336.out
   obtain ⟨hcz13_0,hcz13_1,hcz13_2,hcz13_3,hfz13_0,hfz13_1,hfz13_2,hfz13_3⟩:=bX BK336.out







   go_wp2_with (first|((with_reducible refine gate_callee (f:=15) rfl ?_);refine goesL_ (some 17) rfl rfl Tryd.func15 (by kernel_rfl) rfl #[.agg #[.string a0_0, .slice A0_1 l0_1.length c0_1, .bool a0_2, .string a0_3]] rfl (aE1 rfl) ?_;(with_reducible refine (spec_AddrOk.calls k a0_0 _ _ l0_1 a0_2 a0_3 false _ ?side1 ?side2 A7.out).mono ?_);(case side1=>repeat (first|exact (Kd.C_below HR0_1.out HB.out)|(with_reducible refine bC ?_)));(case side2=>exact HC0_1.out);rintro e w14 ⟨rfl,hb⟩;refine ⟨_,rfl,?_⟩;have n0_:=Am (blk_below (bB BK336.out) hb);have n1_:=Am (blk_below (bB BK337.out) hb);have n2_:=Am (bT (by repeat (first|(with_reducible first|exact HB.out|apply bA|apply bN|apply bD|refine bS ?_ GE336.out|refine bS ?_ GE337.out)|exact HB.out)) hb);clear BK336 BK337 HB;have BK336:=n0_;have BK337:=n1_;have HB:=n2_;clear n0_ n1_ n2_;(try clear hb)))
   go_meet
   case rel=>exact ⟨_,(true),(by first|rfl|(simp;done)|(simp only [i64_w,i32_w] <;> rfl)|(simp [*];done)|(simp [emp_bne,emp_beq];done)),H',⟨by first|omega|exact Nat.le_refl _⟩,⟨by refine bB ?_;exact BK336.out⟩,⟨by refine bB ?_;exact BK337.out⟩,⟨by repeat (first|(with_reducible first|exact HB.out|apply bA|apply bN|apply bD|refine bS ?_ GE336.out|refine bS ?_ GE337.out)|exact HB.out)⟩⟩
 case rest =>
  clear HC4
  try clear c1
  try clear p2
  try clear c3
  try clear c8
  try clear c9
  try clear c12
  try clear hcz10_0
  try clear hcz10_1
  try clear hcz10_2
  try clear hcz10_3
  try clear hcz13_0
  try clear hcz13_1
  try clear hcz13_2
  try clear hcz13_3
  try clear hfz10_0
  try clear hfz10_1
  try clear hfz10_2
  try clear hfz10_3
  try clear hfz13_0
  try clear hfz13_1
  try clear hfz13_2
  try clear hfz13_3
  obtain ⟨kq,x15_3,rfl,HA,HJ3,BK336,BK337,HB⟩:=hcut
  cases kq with
  | zero=>exact absurd HA.out (by simp [spec_AddrJoin.j0])
  | succ kj3 =>
   have H:=HA.out
   clear HA
   simp only [spec_AddrJoin.j0] at H
   by_cases c15:x15_3 = true
   ·subst c15
    have H1:(some ((⟨#[]⟩:ByteArray),([]:List ByteArray),false,(⟨#[]⟩:ByteArray),false)) = some (r1,r2,r3,r4,r5):=by rw [if_pos rfl] at H;exact H
    clear H
    have H:=H1
    clear H1
    simp only [Option.some.injEq,Prod.mk.injEq] at H
    obtain ⟨rfl,rfl,rfl,rfl,rfl⟩:=H
    have hnb16:=NB337_336.out
    have hnc16:=NB336_337.out
    obtain ⟨hcz17_0,hcz17_1,hcz17_2,hcz17_3,hfz17_0,hfz17_1,hfz17_2,hfz17_3⟩:=bX BK337.out







    go_wp2
    refine bodyPost_ret (results_ct rfl _ _ gb337 25 #[.string (⟨#[]⟩:ByteArray), .slice none 0 0, .bool false, .string (⟨#[]⟩:ByteArray)] (0,0) _ rfl (by refine bB ?_;apply bP;refine bB ?_;exact BK337.out) Tryd.underlying25 rfl (by kernel_rfl)) rfl ?_
    exact ⟨_,by first|rfl|(simp <;> rfl)|(simp [*] <;> rfl),by first|exact Kd.R_nil _ _ _ _ _|exact Kd.N_nil _ _ _ _ _|exact Kd.V_nil _ _ _ _ _|exact Kd.Q_nil _ _ _ _ _|exact Kd.S_nil _ _ _ _ _,by repeat (first|(with_reducible first|exact HB.out|apply bA|apply bN|apply bD|refine bS ?_ GE336.out|refine bS ?_ GE337.out)|exact HB.out)⟩
   ·replace c15:=Bool.eq_false_iff.mpr c15
    subst c15
    have H1:(if (t338.size:Int) ≥ 2 then (if 0 ≤ 2 then (if 2 ≤ (t338.size:Int) then (spec_AddrJoin.j1 kj3 t338 ((t338.extract 0 2).toList == ([47,47]:List UInt8)) a0_0 l0_1 a0_2 a0_3) else (none)) else (none)) else (spec_AddrJoin.j1 kj3 t338 false a0_0 l0_1 a0_2 a0_3)) = some (r1,r2,r3,r4,r5):=by rw [if_neg (show ¬ (false = true) by decide)] at H;exact H
    clear H
    have H:=H1
    clear H1
    have HC18:=Am H
    clear H
    go_upto_region 4 with (fail)
    go_cut [25] (fun v25 wc=>∃ (kq:Nat) (x25_17:Bool),v25 = .bool x25_17 ∧ Aside0 (spec_AddrJoin.j1 kq t338 x25_17 a0_0 l0_1 a0_2 a0_3 = some (r1,r2,r3,r4,r5)) ∧ Aside0 (kq ≤ kj3) ∧ Aside0 (wc.heap[gb336]? = some (.cells #[.string a0_0,(.slice A0_1 l0_1.length c0_1), .bool a0_2, .string a0_3] 25 (0,0))) ∧ Aside0 (wc.heap[gb337]? = some (.cells #[.string (⟨#[]⟩:ByteArray),(.slice none 0 0), .bool false, .string (⟨#[]⟩:ByteArray)] 25 (0,0))) ∧ Aside0 (Below w.heap.size w wc))
    case first =>
     have H:=HC18.out
     clear HC18
     by_cases c19:(t338.size:Int) ≥ 2
     ·rw [if_pos c19] at H
      have c19b0:decide (2 ≤ (t338.size:Int)) = true:=decide_eq_true c19
      have c19b1:decide (2 ≤ t338.size) = true:=decide_eq_true (by omega)
      clear c19
      (first|rw [c19b0]|(simp only [i64_w,i32_w];rw [c19b0])|skip)
      by_cases c20:0 ≤ 2
      ·rw [if_pos c20] at H
       have c20b0:=eq_true c20
       have c20b1:=decide_eq_true c20
       clear c20
       by_cases c21:2 ≤ (t338.size:Int)
       ·rw [if_pos c21] at H
        have c21b0:=eq_true c21
        have c21b1:=decide_eq_true c21
        clear c21
        have H':=Am H
        clear H
        go_wp2
        go_meet
        case rel=>exact ⟨_,(((t338.extract 0 2).toList == ([47,47]:List UInt8))),(by first|rfl|(simp;done)|(simp only [i64_w,i32_w] <;> rfl)|(simp [*];done)|(simp [emp_bne,emp_beq];done)),H',⟨by have:=HJ3.out;first|omega|exact Nat.le_refl _⟩,⟨by refine bB ?_;exact BK336.out⟩,⟨by refine bB ?_;exact BK337.out⟩,⟨by repeat (first|(with_reducible first|exact HB.out|apply bA|apply bN|apply bD|refine bS ?_ GE336.out|refine bS ?_ GE337.out)|exact HB.out)⟩⟩
       ·rw [if_neg c21] at H
        exact absurd H (by simp)
      ·rw [if_neg c20] at H
       exact absurd H (by simp)
     ·rw [if_neg c19] at H
      have c19b0:decide (2 ≤ (t338.size:Int)) = false:=decide_eq_false c19
      have c19b1:decide (2 ≤ t338.size) = false:=decide_eq_false (by omega)
      clear c19
      (first|rw [c19b0]|(simp only [i64_w,i32_w];rw [c19b0])|skip)
      have H':=Am H
      clear H
      go_wp2
      go_meet
      case rel=>exact ⟨_,(false),(by first|rfl|(simp;done)|(simp only [i64_w,i32_w] <;> rfl)|(simp [*];done)|(simp [emp_bne,emp_beq];done)),H',⟨by have:=HJ3.out;first|omega|exact Nat.le_refl _⟩,⟨by refine bB ?_;exact BK336.out⟩,⟨by refine bB ?_;exact BK337.out⟩,⟨by repeat (first|(with_reducible first|exact HB.out|apply bA|apply bN|apply bD|refine bS ?_ GE336.out|refine bS ?_ GE337.out)|exact HB.out)⟩⟩
    case rest =>
     clear HC18
     try clear c1
     try clear c2
     try clear p2
     try clear c3
     try clear c8
     try clear c9
     try clear c12
     try clear c15
     try clear c16
     try clear c19
     try clear c19b0
     try clear c19b1
     try clear c20
     try clear c20b0
     try clear c20b1
     try clear c21
     try clear c21b0
     try clear c21b1
     try clear hcz10_0
     try clear hcz10_1
     try clear hcz10_2
     try clear hcz10_3
     try clear hcz13_0
     try clear hcz13_1
     try clear hcz13_2
     try clear hcz13_3
     try clear hcz17_0
     try clear hcz17_1
     try clear hcz17_2
     try clear hcz17_3
     try clear hfz10_0
     try clear hfz10_1
     try clear hfz10_2
     try clear hfz10_3
     try clear hfz13_0
     try clear hfz13_1
     try clear hfz13_2
     try clear hfz13_3
     try clear hfz17_0
     try clear hfz17_1
     try clear hfz17_2
     try clear hfz17_3
     try clear p2
     obtain ⟨kq,x25_17,rfl,HA,HJ17,BK336,BK337,HB⟩:=hcut
     cases kq with
     | zero=>exact absurd HA.out (by simp [spec_AddrJoin.j1])
     | succ kj17 =>
      have H:=HA.out
      clear HA
      simp only [spec_AddrJoin.j1] at H
      by_cases c22:x25_17 = true
      ·subst c22
       have H1:(if 2 ≤ (t338.size:Int) then ((spec_l1Whole.f kj17 (t338.extract 2 t338.size)).bind fun bt342=>(some (bt342.1,bt342.2.1,bt342.2.2.1,bt342.2.2.2.1,bt342.2.2.2.2))) else (none)) = some (r1,r2,r3,r4,r5):=by rw [if_pos rfl] at H;exact H
       clear H
       have H:=H1
       clear H1
       by_cases c23:2 ≤ (t338.size:Int)
       ·rw [if_pos c23] at H
        have c23b0:=eq_true c23
        have c23b1:=decide_eq_true c23
        clear c23
        replace H:=bI H
        obtain ⟨⟨t342,t343,t346,t347,t348⟩,A240,H⟩:=H
        replace H:(some (t342,t343,t346,t347,t348)) = some (r1,r2,r3,r4,r5):=H
        have A24:=Am A240
        clear A240
        simp only [Option.some.injEq,Prod.mk.injEq] at H
        obtain ⟨rfl,rfl,rfl,rfl,rfl⟩:=H
        go_wp2_with (first|((with_reducible refine gate_callee (f:=33) rfl ?_);refine goesL_ (some 36) rfl rfl Tryd.func33 (by kernel_rfl) rfl #[.string (t338.extract 2 t338.size)] rfl (aE1 rfl) ?_;(with_reducible refine (spec_l1Whole.calls kj17 (t338.extract 2 t338.size) t342 t343 t346 t347 t348 _ A24.out).mono ?_);rintro e w25 ⟨v344,rfl,ho0,hb⟩;refine ⟨_,rfl,?_⟩;have n0_:=Am (Kd.R_lower ho0 (bU (by repeat (first|(with_reducible first|exact HB.out|apply bA|apply bN|apply bD|refine bS ?_ GE336.out|refine bS ?_ GE337.out)|exact HB.out))));have n1_:=Am (blk_below (bB BK336.out) hb);have n2_:=Am (blk_below (bB BK337.out) hb);have n3_:=Am (bT (by repeat (first|(with_reducible first|exact HB.out|apply bA|apply bN|apply bD|refine bS ?_ GE336.out|refine bS ?_ GE337.out)|exact HB.out)) hb);clear BK336 BK337 HB;have HO345:=n0_;have BK336:=n1_;have BK337:=n2_;have HB:=n3_;clear n0_ n1_ n2_ n3_;(try clear hb);(try clear ho0);have hnb26:=NB337_336.out;have hnc26:=NB336_337.out;obtain ⟨hcz27_0,hcz27_1,hcz27_2,hcz27_3,hfz27_0,hfz27_1,hfz27_2,hfz27_3⟩:=bX BK337.out;obtain ⟨Ao28,co28,eo28⟩:=Kd.R_slice HO345.out;subst eo28))
        refine bodyPost_ret (results_ct rfl _ _ gb337 25 #[.string t342, .slice Ao28 t343.length co28, .bool t346, .string t347] (0,0) _ rfl (by refine bB ?_;apply bP;refine bB ?_;exact BK337.out) Tryd.underlying25 rfl (by kernel_rfl)) rfl ?_
        exact ⟨_,by first|rfl|(simp <;> rfl)|(simp [*] <;> rfl),by (with_reducible repeat (first|apply rA|apply rN|apply rD));exact Kd.R_mono (Kd.R_far (p:=⟨gb337,3,none⟩) (Kd.R_far (p:=⟨gb337,2,none⟩) (Kd.R_far (p:=⟨gb337,1,none⟩) (Kd.R_far (p:=⟨gb337,0,none⟩) (Kd.R_types HO345.out BK337.out (by decide)) (fun _ hk=>hk.2) (.string t342)) (fun _ hk=>hk.2) (.slice Ao28 t343.length co28)) (fun _ hk=>hk.2) (.bool t346)) (fun _ hk=>hk.2) (.string t347)) (fun _ hk=>trivial),by repeat (first|(with_reducible first|exact HB.out|apply bA|apply bN|apply bD|refine bS ?_ GE336.out|refine bS ?_ GE337.out)|exact HB.out)⟩
       ·rw [if_neg c23] at H
        exact absurd H (by simp)
      ·replace c22:=Bool.eq_false_iff.mpr c22
       subst c22
       have H1:(if t338.toList = ([]:List UInt8) then ((some (([]:List ByteArray):List ByteArray)).bind fun y349=>(if y349.length + l0_1.length < 8796093022208 then (some (a0_0,(y349 ++ l0_1),a0_2,a0_3,true)) else (none))) else (if 0 < (t338.size:Int) then (if (bt t338 0) = 47 then ((spec_l1Way.f kj17 a0_0 ([]:List ByteArray) false (⟨#[]⟩:ByteArray) t338).bind fun bt355=>(some (bt355.1,bt355.2.1,bt355.2.2.1,bt355.2.2.2.1,bt355.2.2.2.2))) else (if (bt t338 0) = 63 then ((spec_l1Way.f kj17 a0_0 l0_1 false (⟨#[]⟩:ByteArray) t338).bind fun bt362=>(some (bt362.1,bt362.2.1,bt362.2.2.1,bt362.2.2.2.1,bt362.2.2.2.2))) else ((spec_l1Up.f a0_0 l0_1 a0_2 a0_3).bind fun bt369=>((spec_l1Way.f kj17 bt369.1 bt369.2.1 bt369.2.2.1 bt369.2.2.2 t338).bind fun bt375=>(some (bt375.1,bt375.2.1,bt375.2.2.1,bt375.2.2.2.1,bt375.2.2.2.2)))))) else (none))) = some (r1,r2,r3,r4,r5):=by rw [if_neg (show ¬ (false = true) by decide)] at H;exact H
       clear H
       have H:=H1
       clear H1
       by_cases c29:t338.toList = ([]:List UInt8)
       ·rw [if_pos c29] at H
        (try (have c29b0:t338.toList.isEmpty = true:=by simpa using c29))
        have c29b1:(t338.toList == ([]:List UInt8)) = true:=beq_iff_eq.mpr c29
        have c29b2:(t338.toList != ([]:List UInt8)) = false:=bne_eq_false_iff_eq.mpr c29
        clear c29
        obtain ⟨y349,hy349⟩:∃ y_:List ByteArray,y_ = (([]:List ByteArray)):=⟨_,rfl⟩
        replace H:(if y349.length + l0_1.length < 8796093022208 then (some (a0_0,(y349 ++ l0_1),a0_2,a0_3,true)) else (none)) = some (r1,r2,r3,r4,r5):=by first|(rw [hy349];with_reducible exact H)|(have H2_:=(Option.bind_some _ _).symm.trans H;rw [hy349];with_reducible exact H2_)|(have H2_:=(Option.bind_some _ _).symm.trans H;with_reducible exact H2_)|with_reducible exact H|(rw [hy349];exact H)|exact H
        have Ny349:=Am hy349
        clear hy349
        by_cases c30:y349.length + l0_1.length < 8796093022208
        ·rw [if_pos c30] at H
         have LMc30:=Am c30
         clear c30
         obtain ⟨y352,hy352⟩:∃ y_:List ByteArray,y_ = (y349 ++ l0_1):=⟨_,rfl⟩
         replace H:(some (a0_0,y352,a0_2,a0_3,true)) = some (r1,r2,r3,r4,r5):=by first|(rw [hy352];with_reducible exact H)|(have H2_:=(Option.bind_some _ _).symm.trans H;rw [hy352];with_reducible exact H2_)|(have H2_:=(Option.bind_some _ _).symm.trans H;with_reducible exact H2_)|with_reducible exact H|(rw [hy352];exact H)|exact H
         have Ny352:=Am hy352
         clear hy352
         simp only [Option.some.injEq,Prod.mk.injEq] at H
         obtain ⟨rfl,rfl,rfl,rfl,rfl⟩:=H
         go_wp2_with (first|((with_reducible refine gate_dst (N:=42) rfl ?_);(try (refine gate_guard (by rfl) ?_;dsimp only));refine Kd.R_lit Kd.string _ 9 ?hg (N:=42) ?hd (xs:=([]:List ByteArray)) (inner:=[]) (ok:=fun _=>True) (okp:=fun _=>True) ?hr ?hp (fun _ hk=>hk) trivial (Below.refl _ _) (Nat.le_refl _) (by simp) ?_;(case hd=>rfl);(case hg=>rfl);(case hr=>(go_simp <;> rfl));(case hp=>exact (Reps.none _ _));intro v350 w31 ho32 hb hg_ hnew_;clear hg_ hnew_;(first|rw [← Ny349.out] at ho32|(simp only [Int.reduceToNat] at ho32;rw [← Ny349.out] at ho32));have n0_:=Am (Kd.R_lower ho32 (bU (by repeat (first|(with_reducible first|exact HB.out|apply bA|apply bN|apply bD|refine bS ?_ GE336.out|refine bS ?_ GE337.out)|exact HB.out))));have n1_:=Am (blk_below (bB BK336.out) hb);have n2_:=Am (blk_below (bB BK337.out) hb);have n3_:=Am (bT (by repeat (first|(with_reducible first|exact HB.out|apply bA|apply bN|apply bD|refine bS ?_ GE336.out|refine bS ?_ GE337.out)|exact HB.out)) hb);clear BK336 BK337 HB;have HO351:=n0_;have BK336:=n1_;have BK337:=n2_;have HB:=n3_;clear n0_ n1_ n2_ n3_ hb ho32;have hnb33:=NB336_337.out;have hnc33:=NB337_336.out;obtain ⟨hcz34_0,hcz34_1,hcz34_2,hcz34_3,hfz34_0,hfz34_1,hfz34_2,hfz34_3⟩:=bX BK336.out)|((with_reducible refine gate_builtin (b:=.append) (xs:=#[.tmp 42, .tmp 44]) rfl ?_);(try (refine gate_guard (by rfl) ?_;dsimp only));at_builtin;refine Kd.R_append_rows Kd.string (w0:=w) w.heap.size rfl (.tmp 42) (.tmp 44) 23 9 (.string ⟨#[]⟩) 16 rfl Tryd.underlying23 info9 rfl (by decide) (by omega) v350 y349 l0_1 _ _ _ (fun _=>True) (fun _=>False) rfl rfl ?aO ?aR (fun _ _ h=>h) (fun _ h=>h.elim) ?aF ?aB ?aS ?aL ?_;(case aR=>repeat (first|exact (Kd.C_below HR0_1.out HB.out)|(with_reducible refine bC ?_)));(case aB=>exact (by repeat (first|(with_reducible first|exact HB.out|apply bA|apply bN|apply bD|refine bS ?_ GE336.out|refine bS ?_ GE337.out)|exact HB.out)));(case aF=>exact (fun _ _=>trivial));(case aO=>exact (bR HO351.out));(case aS=>exact (bU (by repeat (first|(with_reducible first|exact HB.out|apply bA|apply bN|apply bD|refine bS ?_ GE336.out|refine bS ?_ GE337.out)|exact HB.out))));(case aL=>have:=LMc30.out;omega);intro v353 w35 ho hb hg hat;rw [← Ny352.out] at ho;have n0_:=Am (blk_grown (bB BK336.out) hg (Kd.R_ne HO351.out BK336.out (by decide)));have n1_:=Am (blk_grown (bB BK337.out) hg (Kd.R_ne HO351.out BK337.out (by decide)));have n2_:=Am (hb);have n3_:=Am (ho);clear BK336 BK337 HB HO351;have BK336:=n0_;have BK337:=n1_;have HB:=n2_;have HO354:=n3_;clear n0_ n1_ n2_ n3_ ho hb hg hat;obtain ⟨Ao36,co36,eo36⟩:=Kd.R_slice HO354.out;subst eo36;obtain ⟨hcz37_0,hcz37_1,hcz37_2,hcz37_3,hfz37_0,hfz37_1,hfz37_2,hfz37_3⟩:=bX BK336.out;obtain ⟨hcz38_0,hcz38_1,hcz38_2,hcz38_3,hfz38_0,hfz38_1,hfz38_2,hfz38_3⟩:=bX BK337.out))
         refine bodyPost_ret (results_ct rfl _ _ gb337 25 #[.string a0_0, .slice Ao36 y352.length co36, .bool a0_2, .string a0_3] (0,0) _ rfl (by refine bB ?_;apply bP;refine bB ?_;refine blk_far ?_ NB337_336.out _;refine bB ?_;exact BK337.out) Tryd.underlying25 rfl (by kernel_rfl)) rfl ?_
         exact ⟨_,by first|rfl|(simp <;> rfl)|(simp [*] <;> rfl),by (with_reducible repeat (first|apply rA|apply rN|apply rD));exact Kd.R_mono (Kd.R_far (p:=⟨gb337,3,none⟩) (Kd.R_far (p:=⟨gb337,2,none⟩) (Kd.R_far (p:=⟨gb337,1,none⟩) (Kd.R_far (p:=⟨gb337,0,none⟩) (Kd.R_far (p:=⟨gb336,1,none⟩) (Kd.R_types (Kd.R_types HO354.out BK336.out (by decide)) BK337.out (by decide)) (fun _ hk=>hk.1.2) (.slice Ao36 y352.length co36)) (fun _ hk=>hk.2) (.string a0_0)) (fun _ hk=>hk.2) (.slice Ao36 y352.length co36)) (fun _ hk=>hk.2) (.bool a0_2)) (fun _ hk=>hk.2) (.string a0_3)) (fun _ hk=>trivial),by repeat (first|(with_reducible first|exact HB.out|apply bA|apply bN|apply bD|refine bS ?_ GE336.out|refine bS ?_ GE337.out)|exact HB.out)⟩
        ·rw [if_neg c30] at H
         exact absurd H (by simp)
       ·rw [if_neg c29] at H
        (try (have c29b0:t338.toList.isEmpty = false:=by simpa using c29))
        have c29b1:(t338.toList == ([]:List UInt8)) = false:=beq_eq_false_iff_ne.mpr c29
        have c29b2:(t338.toList != ([]:List UInt8)) = true:=bne_iff_ne.mpr c29
        by_cases c39:0 < (t338.size:Int)
        ·rw [if_pos c39] at H
         have c39b0:decide (0 < (t338.size:Int)) = true:=decide_eq_true c39
         have c39b1:decide (0 < t338.size) = true:=decide_eq_true (by omega)
         clear c39
         by_cases c41:(bt t338 0) = 47
         ·rw [if_pos c41] at H
          have c41b0:((bt t338 0) == 47) = true:=beq_iff_eq.mpr c41
          have c41b1:((bt t338 0) != 47) = false:=bne_eq_false_iff_eq.mpr c41
          clear c41
          replace H:=bI H
          obtain ⟨⟨t355,t356,t359,t360,t361⟩,A420,H⟩:=H
          replace H:(some (t355,t356,t359,t360,t361)) = some (r1,r2,r3,r4,r5):=H
          have A42:=Am A420
          clear A420
          simp only [Option.some.injEq,Prod.mk.injEq] at H
          obtain ⟨rfl,rfl,rfl,rfl,rfl⟩:=H
          have p40:0 ≤ (0:Int):=(by omega)
          have q40:0 < t338.size:=(by have:(0:Int) < (t338.size:Int):=oD (by assumption);omega)
          have hx40:∀ h:0 < t338.size,((t338[0]'h).toNat:Int) = bt t338 0:=bt_at t338 0
          clear p40
          have qi40:(0 < (t338.size:Int)) = True:=eq_true (oD (by assumption))
          replace q40:=eq_true q40
          have hnb43:=NB336_337.out
          have hnc43:=NB337_336.out
          obtain ⟨hcz44_0,hcz44_1,hcz44_2,hcz44_3,hfz44_0,hfz44_1,hfz44_2,hfz44_3⟩:=bX BK336.out







          go_wp2_with (first|((with_reducible refine gate_callee (f:=34) rfl ?_);refine goesL_ (some 56) rfl rfl Tryd.func34 (by kernel_rfl) rfl #[.agg #[.string a0_0, .slice none 0 0, .bool false, .string (⟨#[]⟩:ByteArray)], .string t338] rfl (aE2 rfl rfl) ?_;(refine (spec_l1Way.calls kj17 a0_0 _ _ ([]:List ByteArray) false (⟨#[]⟩:ByteArray) t338 t355 t356 t359 t360 t361 _ ?side1 ?side2 A42.out).mono ?_);(case side1=>exact Kd.C_nil _ _);(case side2=>exact Nat.le_refl _);rintro e w45 ⟨v357,rfl,ho0,hb⟩;refine ⟨_,rfl,?_⟩;have n0_:=Am (Kd.R_lower ho0 (bU (by repeat (first|(with_reducible first|exact HB.out|apply bA|apply bN|apply bD|refine bS ?_ GE336.out|refine bS ?_ GE337.out)|exact HB.out))));have n1_:=Am (blk_below (bB BK336.out) hb);have n2_:=Am (blk_below (bB BK337.out) hb);have n3_:=Am (bT (by repeat (first|(with_reducible first|exact HB.out|apply bA|apply bN|apply bD|refine bS ?_ GE336.out|refine bS ?_ GE337.out)|exact HB.out)) hb);clear BK336 BK337 HB;have HO358:=n0_;have BK336:=n1_;have BK337:=n2_;have HB:=n3_;clear n0_ n1_ n2_ n3_;(try clear hb);(try clear ho0);obtain ⟨hcz46_0,hcz46_1,hcz46_2,hcz46_3,hfz46_0,hfz46_1,hfz46_2,hfz46_3⟩:=bX BK337.out;obtain ⟨Ao47,co47,eo47⟩:=Kd.R_slice HO358.out;subst eo47))
          refine bodyPost_ret (results_ct rfl _ _ gb337 25 #[.string t355, .slice Ao47 t356.length co47, .bool t359, .string t360] (0,0) _ rfl (by refine bB ?_;apply bP;refine bB ?_;exact BK337.out) Tryd.underlying25 rfl (by kernel_rfl)) rfl ?_
          exact ⟨_,by first|rfl|(simp <;> rfl)|(simp [*] <;> rfl),by (with_reducible repeat (first|apply rA|apply rN|apply rD));exact Kd.R_mono (Kd.R_far (p:=⟨gb337,3,none⟩) (Kd.R_far (p:=⟨gb337,2,none⟩) (Kd.R_far (p:=⟨gb337,1,none⟩) (Kd.R_far (p:=⟨gb337,0,none⟩) (Kd.R_types HO358.out BK337.out (by decide)) (fun _ hk=>hk.2) (.string t355)) (fun _ hk=>hk.2) (.slice Ao47 t356.length co47)) (fun _ hk=>hk.2) (.bool t359)) (fun _ hk=>hk.2) (.string t360)) (fun _ hk=>trivial),by repeat (first|(with_reducible first|exact HB.out|apply bA|apply bN|apply bD|refine bS ?_ GE336.out|refine bS ?_ GE337.out)|exact HB.out)⟩
         ·rw [if_neg c41] at H
          have c41b0:((bt t338 0) == 47) = false:=beq_eq_false_iff_ne.mpr c41
          have c41b1:((bt t338 0) != 47) = true:=bne_iff_ne.mpr c41
          by_cases c49:(bt t338 0) = 63
          ·rw [if_pos c49] at H
           have c49b0:((bt t338 0) == 63) = true:=beq_iff_eq.mpr c49
           have c49b1:((bt t338 0) != 63) = false:=bne_eq_false_iff_eq.mpr c49
           clear c49
           replace H:=bI H
           obtain ⟨⟨t362,t363,t366,t367,t368⟩,A500,H⟩:=H
           replace H:(some (t362,t363,t366,t367,t368)) = some (r1,r2,r3,r4,r5):=H
           have A50:=Am A500
           clear A500
           simp only [Option.some.injEq,Prod.mk.injEq] at H
           obtain ⟨rfl,rfl,rfl,rfl,rfl⟩:=H
           have p40:0 ≤ (0:Int):=(by omega)
           have q40:0 < t338.size:=(by have:(0:Int) < (t338.size:Int):=oD (by assumption);omega)
           have hx40:∀ h:0 < t338.size,((t338[0]'h).toNat:Int) = bt t338 0:=bt_at t338 0
           clear p40
           have qi40:(0 < (t338.size:Int)) = True:=eq_true (oD (by assumption))
           replace q40:=eq_true q40
           have p48:0 ≤ (0:Int):=(by omega)
           have q48:0 < t338.size:=(by have:(0:Int) < (t338.size:Int):=oD (by assumption);omega)
           have hx48:∀ h:0 < t338.size,((t338[0]'h).toNat:Int) = bt t338 0:=bt_at t338 0
           clear p48
           have qi48:(0 < (t338.size:Int)) = True:=eq_true (oD (by assumption))
           replace q48:=eq_true q48
           have hnb51:=NB336_337.out
           have hnc51:=NB337_336.out
           obtain ⟨hcz52_0,hcz52_1,hcz52_2,hcz52_3,hfz52_0,hfz52_1,hfz52_2,hfz52_3⟩:=bX BK336.out







           go_wp2_with (first|((with_reducible refine gate_callee (f:=34) rfl ?_);refine goesL_ (some 69) rfl rfl Tryd.func34 (by kernel_rfl) rfl #[.agg #[.string a0_0, .slice A0_1 l0_1.length c0_1, .bool false, .string (⟨#[]⟩:ByteArray)], .string t338] rfl (aE2 rfl rfl) ?_;(with_reducible refine (spec_l1Way.calls kj17 a0_0 _ _ l0_1 false (⟨#[]⟩:ByteArray) t338 t362 t363 t366 t367 t368 _ ?side1 ?side2 A50.out).mono ?_);(case side1=>repeat (first|exact (Kd.C_below HR0_1.out HB.out)|(with_reducible refine bC ?_)));(case side2=>exact HC0_1.out);rintro e w53 ⟨v364,rfl,ho0,hb⟩;refine ⟨_,rfl,?_⟩;have n0_:=Am (Kd.R_lower ho0 (bU (by repeat (first|(with_reducible first|exact HB.out|apply bA|apply bN|apply bD|refine bS ?_ GE336.out|refine bS ?_ GE337.out)|exact HB.out))));have n1_:=Am (blk_below (bB BK336.out) hb);have n2_:=Am (blk_below (bB BK337.out) hb);have n3_:=Am (bT (by repeat (first|(with_reducible first|exact HB.out|apply bA|apply bN|apply bD|refine bS ?_ GE336.out|refine bS ?_ GE337.out)|exact HB.out)) hb);clear BK336 BK337 HB;have HO365:=n0_;have BK336:=n1_;have BK337:=n2_;have HB:=n3_;clear n0_ n1_ n2_ n3_;(try clear hb);(try clear ho0);obtain ⟨hcz54_0,hcz54_1,hcz54_2,hcz54_3,hfz54_0,hfz54_1,hfz54_2,hfz54_3⟩:=bX BK337.out;obtain ⟨Ao55,co55,eo55⟩:=Kd.R_slice HO365.out;subst eo55))
           refine bodyPost_ret (results_ct rfl _ _ gb337 25 #[.string t362, .slice Ao55 t363.length co55, .bool t366, .string t367] (0,0) _ rfl (by refine bB ?_;apply bP;refine bB ?_;exact BK337.out) Tryd.underlying25 rfl (by kernel_rfl)) rfl ?_
           exact ⟨_,by first|rfl|(simp <;> rfl)|(simp [*] <;> rfl),by (with_reducible repeat (first|apply rA|apply rN|apply rD));exact Kd.R_mono (Kd.R_far (p:=⟨gb337,3,none⟩) (Kd.R_far (p:=⟨gb337,2,none⟩) (Kd.R_far (p:=⟨gb337,1,none⟩) (Kd.R_far (p:=⟨gb337,0,none⟩) (Kd.R_types HO365.out BK337.out (by decide)) (fun _ hk=>hk.2) (.string t362)) (fun _ hk=>hk.2) (.slice Ao55 t363.length co55)) (fun _ hk=>hk.2) (.bool t366)) (fun _ hk=>hk.2) (.string t367)) (fun _ hk=>trivial),by repeat (first|(with_reducible first|exact HB.out|apply bA|apply bN|apply bD|refine bS ?_ GE336.out|refine bS ?_ GE337.out)|exact HB.out)⟩
          ·rw [if_neg c49] at H
           have c49b0:((bt t338 0) == 63) = false:=beq_eq_false_iff_ne.mpr c49
           have c49b1:((bt t338 0) != 63) = true:=bne_iff_ne.mpr c49
           replace H:=bI H
           obtain ⟨⟨t369,t370,t373,t374⟩,A560,H⟩:=H
           replace H:((spec_l1Way.f kj17 t369 t370 t373 t374 t338).bind fun bt375=>(some (bt375.1,bt375.2.1,bt375.2.2.1,bt375.2.2.2.1,bt375.2.2.2.2))) = some (r1,r2,r3,r4,r5):=H
           have A56:=Am A560
           clear A560
           replace H:=bI H
           obtain ⟨⟨t375,t376,t379,t380,t381⟩,A570,H⟩:=H
           replace H:(some (t375,t376,t379,t380,t381)) = some (r1,r2,r3,r4,r5):=H
           have A57:=Am A570
           clear A570
           simp only [Option.some.injEq,Prod.mk.injEq] at H
           obtain ⟨rfl,rfl,rfl,rfl,rfl⟩:=H
           have p40:0 ≤ (0:Int):=(by omega)
           have q40:0 < t338.size:=(by have:(0:Int) < (t338.size:Int):=oD (by assumption);omega)
           have hx40:∀ h:0 < t338.size,((t338[0]'h).toNat:Int) = bt t338 0:=bt_at t338 0
           clear p40
           have qi40:(0 < (t338.size:Int)) = True:=eq_true (oD (by assumption))
           replace q40:=eq_true q40
           have p48:0 ≤ (0:Int):=(by omega)
           have q48:0 < t338.size:=(by have:(0:Int) < (t338.size:Int):=oD (by assumption);omega)
           have hx48:∀ h:0 < t338.size,((t338[0]'h).toNat:Int) = bt t338 0:=bt_at t338 0
           clear p48
           have qi48:(0 < (t338.size:Int)) = True:=eq_true (oD (by assumption))
           replace q48:=eq_true q48
           have hnb58:=NB336_337.out
           have hnc58:=NB337_336.out
           obtain ⟨hcz59_0,hcz59_1,hcz59_2,hcz59_3,hfz59_0,hfz59_1,hfz59_2,hfz59_3⟩:=bX BK336.out







           go_wp2_with (first|((with_reducible refine gate_callee (f:=35) rfl ?_);refine goesL_ (some 73) rfl rfl Tryd.func35 (by kernel_rfl) rfl #[.agg #[.string a0_0, .slice A0_1 l0_1.length c0_1, .bool a0_2, .string a0_3]] rfl (aE1 rfl) ?_;(with_reducible refine (spec_l1Up.calls a0_0 _ _ l0_1 a0_2 a0_3 t369 t370 t373 t374 _ ?side1 ?side2 A56.out).mono ?_);(case side1=>repeat (first|exact (Kd.C_below HR0_1.out HB.out)|(with_reducible refine bC ?_)));(case side2=>exact HC0_1.out);rintro e w60 ⟨v371,rfl,ho0,hb⟩;refine ⟨_,rfl,?_⟩;have n0_:=Am (Kd.R_lower ho0 (bU (by repeat (first|(with_reducible first|exact HB.out|apply bA|apply bN|apply bD|refine bS ?_ GE336.out|refine bS ?_ GE337.out)|exact HB.out))));have n1_:=Am (blk_below (bB BK336.out) hb);have n2_:=Am (blk_below (bB BK337.out) hb);have n3_:=Am (bT (by repeat (first|(with_reducible first|exact HB.out|apply bA|apply bN|apply bD|refine bS ?_ GE336.out|refine bS ?_ GE337.out)|exact HB.out)) hb);clear BK336 BK337 HB;have HO372:=n0_;have BK336:=n1_;have BK337:=n2_;have HB:=n3_;clear n0_ n1_ n2_ n3_;(try clear hb);(try clear ho0);obtain ⟨Ao61,co61,eo61⟩:=Kd.R_slice HO372.out;subst eo61)|((with_reducible refine gate_callee (f:=34) rfl ?_);refine goesL_ (some 75) rfl rfl Tryd.func34 (by kernel_rfl) rfl #[.agg #[.string t369, .slice Ao61 t370.length co61, .bool t373, .string t374], .string t338] rfl (aE2 rfl rfl) ?_;(with_reducible refine (spec_l1Way.calls kj17 t369 _ _ t370 t373 t374 t338 t375 t376 t379 t380 t381 _ ?side1 ?side2 A57.out).mono ?_);(case side1=>repeat (first|exact (Kd.R_reads' HO372.out).2.2|(with_reducible refine bC ?_)));(case side2=>exact (Kd.R_reads' HO372.out).2.1);rintro e w62 ⟨v377,rfl,ho0,hb⟩;refine ⟨_,rfl,?_⟩;have n0_:=Am (Kd.R_elder' (bR HO372.out) (Kd.R_base ho0) hb);have n1_:=Am (Kd.R_lower (Kd.R_new' ho0 (Kd.R_lt (bR HO372.out))) (bU (by repeat (first|(with_reducible first|exact HB.out|apply bA|apply bN|apply bD|refine bS ?_ GE336.out|refine bS ?_ GE337.out)|exact HB.out))));have n2_:=Am (blk_below (bB BK336.out) hb);have n3_:=Am (blk_below (bB BK337.out) hb);have n4_:=Am (bT (by repeat (first|(with_reducible first|exact HB.out|apply bA|apply bN|apply bD|refine bS ?_ GE336.out|refine bS ?_ GE337.out)|exact HB.out)) hb);clear HO372 BK336 BK337 HB;have HO372:=n0_;have HO378:=n1_;have BK336:=n2_;have BK337:=n3_;have HB:=n4_;clear n0_ n1_ n2_ n3_ n4_;(try clear hb);(try clear ho0);obtain ⟨hcz63_0,hcz63_1,hcz63_2,hcz63_3,hfz63_0,hfz63_1,hfz63_2,hfz63_3⟩:=bX BK337.out;obtain ⟨Ao64,co64,eo64⟩:=Kd.R_slice HO378.out;subst eo64))
           refine bodyPost_ret (results_ct rfl _ _ gb337 25 #[.string t375, .slice Ao64 t376.length co64, .bool t379, .string t380] (0,0) _ rfl (by refine bB ?_;apply bP;refine bB ?_;exact BK337.out) Tryd.underlying25 rfl (by kernel_rfl)) rfl ?_
           exact ⟨_,by first|rfl|(simp <;> rfl)|(simp [*] <;> rfl),by (with_reducible repeat (first|apply rA|apply rN|apply rD));exact Kd.R_mono (Kd.R_far (p:=⟨gb337,3,none⟩) (Kd.R_far (p:=⟨gb337,2,none⟩) (Kd.R_far (p:=⟨gb337,1,none⟩) (Kd.R_far (p:=⟨gb337,0,none⟩) (Kd.R_types HO378.out BK337.out (by decide)) (fun _ hk=>hk.2) (.string t375)) (fun _ hk=>hk.2) (.slice Ao64 t376.length co64)) (fun _ hk=>hk.2) (.bool t379)) (fun _ hk=>hk.2) (.string t380)) (fun _ hk=>trivial),by repeat (first|(with_reducible first|exact HB.out|apply bA|apply bN|apply bD|refine bS ?_ GE336.out|refine bS ?_ GE337.out)|exact HB.out)⟩
        ·rw [if_neg c39] at H
         exact absurd H (by simp)

def strings_Join.f (l0:List ByteArray) (a1:ByteArray):Option ByteArray :=
 if l0.length ≤ 140737488355328 ∧ (Go.Lib.join (l0.map (·.data.toList)) a1.data.toList).length ≤ 140737488355328 then some ⟨(Go.Lib.join (l0.map (·.data.toList)) a1.data.toList).toArray⟩ else none
theorem strings_Join.plain {w:World} {ad:Addr} {j:Nat} {v:Value} (h:w.cell? (ad.add j) = some v) (h0:∃ u,w.cell? (ad.add 0) = some u):w.cell? ⟨ad.block,ad.off + j,none⟩ = some v ∧ ad.spot = none:=by
 have hs:ad.spot = none:=by
  obtain ⟨u,hu⟩:=h0
  unfold World.cell? at hu
  split at hu
  ·split at hu
   ·cases hu
   ·rename_i hn
    unfold Addr.add at hn
    simpa using hn
  ·cases hu
 refine ⟨?_,hs⟩
 rw [← h]
 congr 1
 unfold Addr.add
 split
 ·rename_i hj;subst hj;cases ad;simp_all
 ·rfl
theorem strings_Join.calls (A0:Option Addr) (c0:Nat) (l0:List ByteArray) (a1:ByteArray) (r:ByteArray) (w:World) (hr0:Kd.C Kd.string w A0 l0.length l0) (hc0:l0.length ≤ c0) (h:strings_Join.f l0 a1 = some r) :
  Calls Tryd.prog 72 #[.slice A0 l0.length c0, .string a1] w fun e w'=>e = .returned (.string r) ∧ Below w.heap.size w w':=by
 unfold strings_Join.f at h
 split at h
 rotate_left
 ·cases h
 rename_i hb
 obtain rfl:=Option.some.inj h
 cases l0 with
 | nil=>exact (Tryd.strings_Join_none A0 c0 a1 w).mono fun e w' ⟨he,hw⟩=>⟨by rw [he];rfl,hw ▸ Below.refl _ _⟩
 | cons x l =>
  obtain ⟨ad,rfl,hc⟩:=hr0.2.2 (by simp)
  have hcell:∀ (j:Nat) y,(x :: l)[j]? = some y → w.cell? (ad.add j) = some (.string y):=fun j y hy=>by
   obtain ⟨c,_,hK,hcc⟩:=hc j y hy
   have hK':c = [.string y]:=hK
   subst hK'
   have:=hcc 0 _ rfl
   rwa [show j * Kd.string.sz + 0 = j by show j * 1 + 0 = j;omega] at this
  have h0:∃ u,w.cell? (ad.add 0) = some u:=⟨_,hcell 0 x rfl⟩
  have hp:=fun (j:Nat) y (hy:(x :: l)[j]? = some y)=>(strings_Join.plain (hcell j y hy) h0).1
  have hs:=(strings_Join.plain (hcell 0 x rfl) h0).2
  have hbk:ad.block < w.heap.size:=World.block_lt_of_cell? w ⟨ad.block,ad.off + 0,none⟩ (hp 0 x rfl)
  have hl:(x :: l).length ≤ 140737488355328:=hb.1
  have:=Tryd.strings_Join ad.block ad.off c0 (x :: l) a1 w hp hbk hl hc0 hb.2
  rw [show (⟨ad.block,ad.off,none⟩:Addr) = ad by cases ad;simp_all] at this
  exact this

def impl_writePath.f (a0_0:ByteArray) (l0_1:List ByteArray) (a0_2:Bool) (a0_3:ByteArray):Option (ByteArray):=(strings_Join.f l0_1 (⟨#[47]⟩:ByteArray)).bind fun t383=>(if 1 + t383.size ≤ 9223372036854775807 then (if a0_2 = true then (if 1 + a0_3.size ≤ 9223372036854775807 then (if ((⟨#[47]⟩:ByteArray) ++ t383).size + ((⟨#[63]⟩:ByteArray) ++ a0_3).size ≤ 9223372036854775807 then (some (((⟨#[47]⟩:ByteArray) ++ t383) ++ ((⟨#[63]⟩:ByteArray) ++ a0_3))) else (none)) else (none)) else (some ((⟨#[47]⟩:ByteArray) ++ t383))) else (none))
theorem impl_writePath.calls (a0_0:ByteArray) (A0_1:Option Addr) (c0_1:Nat) (l0_1:List ByteArray) (a0_2:Bool) (a0_3:ByteArray) (r:ByteArray) (w:World) (hr0_1:Kd.C Kd.string w A0_1 l0_1.length l0_1) (hc0_1:l0_1.length ≤ c0_1) (h:impl_writePath.f a0_0 l0_1 a0_2 a0_3 = some r) :
  Calls Tryd.prog 45 #[.agg #[.string a0_0, .slice A0_1 l0_1.length c0_1, .bool a0_2, .string a0_3]] w fun e w'=>e = .returned (.string r) ∧ Below w.heap.size w w':=by
 have hu25:=Tryd.underlying25
 have HR0_1:=Am hr0_1
 have HC0_1:=Am hc0_1
 clear hr0_1 hc0_1
 have HB:=Am (Below.refl w.heap.size w)
 have H:((strings_Join.f l0_1 (⟨#[47]⟩:ByteArray)).bind fun t383=>(if 1 + t383.size ≤ 9223372036854775807 then (if a0_2 = true then (if 1 + a0_3.size ≤ 9223372036854775807 then (if ((⟨#[47]⟩:ByteArray) ++ t383).size + ((⟨#[63]⟩:ByteArray) ++ a0_3).size ≤ 9223372036854775807 then (some (((⟨#[47]⟩:ByteArray) ++ t383) ++ ((⟨#[63]⟩:ByteArray) ++ a0_3))) else (none)) else (none)) else (some ((⟨#[47]⟩:ByteArray) ++ t383))) else (none))) = some r:=h
 clear h
 replace H:=bI H
 obtain ⟨t383,A20,H⟩:=H
 replace H:(if 1 + t383.size ≤ 9223372036854775807 then (if a0_2 = true then (if 1 + a0_3.size ≤ 9223372036854775807 then (if ((⟨#[47]⟩:ByteArray) ++ t383).size + ((⟨#[63]⟩:ByteArray) ++ a0_3).size ≤ 9223372036854775807 then (some (((⟨#[47]⟩:ByteArray) ++ t383) ++ ((⟨#[63]⟩:ByteArray) ++ a0_3))) else (none)) else (none)) else (some ((⟨#[47]⟩:ByteArray) ++ t383))) else (none)) = some r:=H
 have A2:=Am A20
 clear A20
 by_cases c3:1 + t383.size ≤ 9223372036854775807
 ·rw [if_pos c3] at H
  have c3b0:=eq_true c3
  have c3b1:=decide_eq_true c3
  try have c3b2:(9223372036854775807 < 1 + t383.size) = False:=eq_false (Nat.not_lt.2 c3)
  by_cases c4:a0_2 = true
  ·subst c4
   have H1:(if 1 + a0_3.size ≤ 9223372036854775807 then (if ((⟨#[47]⟩:ByteArray) ++ t383).size + ((⟨#[63]⟩:ByteArray) ++ a0_3).size ≤ 9223372036854775807 then (some (((⟨#[47]⟩:ByteArray) ++ t383) ++ ((⟨#[63]⟩:ByteArray) ++ a0_3))) else (none)) else (none)) = some r:=by rw [if_pos rfl] at H;exact H
   clear H
   have H:=H1
   clear H1
   by_cases c5:1 + a0_3.size ≤ 9223372036854775807
   ·rw [if_pos c5] at H
    have c5b0:=eq_true c5
    have c5b1:=decide_eq_true c5
    try have c5b2:(9223372036854775807 < 1 + a0_3.size) = False:=eq_false (Nat.not_lt.2 c5)
    by_cases c6:((⟨#[47]⟩:ByteArray) ++ t383).size + ((⟨#[63]⟩:ByteArray) ++ a0_3).size ≤ 9223372036854775807
    ·rw [if_pos c6] at H
     have c6b0:=eq_true c6
     have c6b1:=decide_eq_true c6
     try have c6b3:(9223372036854775807 < 1 + t383.size + 1 + a0_3.size) = False:=eq_false (Nat.not_lt.2 (by have h_:=c6;simp only [ByteArray.size_append] at h_;exact h_))
     try have c6b2:(9223372036854775807 < ((⟨#[47]⟩:ByteArray) ++ t383).size + ((⟨#[63]⟩:ByteArray) ++ a0_3).size) = False:=eq_false (Nat.not_lt.2 c6)
     obtain rfl:=Option.some.inj H
     go_enter Tryd.func45,Tryd.ntmps45
     go_wp2_with (first|((with_reducible refine gate_dst (N:=1) rfl ?_);refine box_event ?hg (N:=1) ?hd (cs:=#[.string a0_0, .slice A0_1 l0_1.length c0_1, .bool true, .string a0_3]) (t:=25) ?hr ?_;(case hd=>rfl);(case hg=>rfl);(case hr=>(go_simp <;> rfl));intro gb382 hg w7 hbox hb;have n0_:=Am (bT (by repeat (first|(with_reducible first|exact HB.out|apply bA|apply bN|apply bD)|exact HB.out)) hb);have n1_:=Am (hbox);have n2_:=Am ((by rw [hg];exact (bU (by repeat (first|(with_reducible first|exact HB.out|apply bA|apply bN|apply bD)|exact HB.out))):w.heap.size ≤ gb382));have n3_:=n2_;clear HB;have HB:=n0_;have BK382:=n1_;have GW382:=n2_;have GE382:=n3_;clear n0_ n1_ n2_ n3_ hb hbox hg;obtain ⟨hcz8_0,hcz8_1,hcz8_2,hcz8_3,hfz8_0,hfz8_1,hfz8_2,hfz8_3⟩:=bX BK382.out)|((with_reducible refine gate_callee (f:=72) rfl ?_);refine goesL_ (some 6) rfl rfl Tryd.func72 (by kernel_rfl) rfl #[.slice A0_1 l0_1.length c0_1, .string (⟨#[47]⟩:ByteArray)] rfl (aE2 rfl rfl) ?_;(with_reducible refine (strings_Join.calls _ _ l0_1 (⟨#[47]⟩:ByteArray) t383 _ ?side1 ?side2 A2.out).mono ?_);(case side1=>repeat (first|exact (Kd.C_below HR0_1.out HB.out)|(with_reducible refine bC ?_)));(case side2=>exact HC0_1.out);rintro e w9 ⟨rfl,hb⟩;refine ⟨_,rfl,?_⟩;have n0_:=Am (blk_below (bB BK382.out) hb);have n1_:=Am (bT (by repeat (first|(with_reducible first|exact HB.out|apply bA|apply bN|apply bD|refine bS ?_ GE382.out)|exact HB.out)) hb);clear BK382 HB;have BK382:=n0_;have HB:=n1_;clear n0_ n1_;(try clear hb);obtain ⟨hcz10_0,hcz10_1,hcz10_2,hcz10_3,hfz10_0,hfz10_1,hfz10_2,hfz10_3⟩:=bX BK382.out))
     go_ret
     exact ⟨by first|rfl|(simp <;> rfl)|(simp [*] <;> rfl),by repeat (first|(with_reducible first|exact HB.out|apply bA|apply bN|apply bD|refine bS ?_ GE382.out)|exact HB.out)⟩
    ·rw [if_neg c6] at H
     exact absurd H (by simp)
   ·rw [if_neg c5] at H
    exact absurd H (by simp)
  ·replace c4:=Bool.eq_false_iff.mpr c4
   subst c4
   have H1:(some ((⟨#[47]⟩:ByteArray) ++ t383)) = some r:=by rw [if_neg (show ¬ (false = true) by decide)] at H;exact H
   clear H
   have H:=H1
   clear H1
   obtain rfl:=Option.some.inj H
   go_enter Tryd.func45,Tryd.ntmps45
   go_wp2_with (first|((with_reducible refine gate_dst (N:=1) rfl ?_);refine box_event ?hg (N:=1) ?hd (cs:=#[.string a0_0, .slice A0_1 l0_1.length c0_1, .bool false, .string a0_3]) (t:=25) ?hr ?_;(case hd=>rfl);(case hg=>rfl);(case hr=>(go_simp <;> rfl));intro gb382 hg w11 hbox hb;have n0_:=Am (bT (by repeat (first|(with_reducible first|exact HB.out|apply bA|apply bN|apply bD)|exact HB.out)) hb);have n1_:=Am (hbox);have n2_:=Am ((by rw [hg];exact (bU (by repeat (first|(with_reducible first|exact HB.out|apply bA|apply bN|apply bD)|exact HB.out))):w.heap.size ≤ gb382));have n3_:=n2_;clear HB;have HB:=n0_;have BK382:=n1_;have GW382:=n2_;have GE382:=n3_;clear n0_ n1_ n2_ n3_ hb hbox hg;obtain ⟨hcz12_0,hcz12_1,hcz12_2,hcz12_3,hfz12_0,hfz12_1,hfz12_2,hfz12_3⟩:=bX BK382.out)|((with_reducible refine gate_callee (f:=72) rfl ?_);refine goesL_ (some 6) rfl rfl Tryd.func72 (by kernel_rfl) rfl #[.slice A0_1 l0_1.length c0_1, .string (⟨#[47]⟩:ByteArray)] rfl (aE2 rfl rfl) ?_;(with_reducible refine (strings_Join.calls _ _ l0_1 (⟨#[47]⟩:ByteArray) t383 _ ?side1 ?side2 A2.out).mono ?_);(case side1=>repeat (first|exact (Kd.C_below HR0_1.out HB.out)|(with_reducible refine bC ?_)));(case side2=>exact HC0_1.out);rintro e w13 ⟨rfl,hb⟩;refine ⟨_,rfl,?_⟩;have n0_:=Am (blk_below (bB BK382.out) hb);have n1_:=Am (bT (by repeat (first|(with_reducible first|exact HB.out|apply bA|apply bN|apply bD|refine bS ?_ GE382.out)|exact HB.out)) hb);clear BK382 HB;have BK382:=n0_;have HB:=n1_;clear n0_ n1_;(try clear hb);obtain ⟨hcz14_0,hcz14_1,hcz14_2,hcz14_3,hfz14_0,hfz14_1,hfz14_2,hfz14_3⟩:=bX BK382.out))
   go_ret
   exact ⟨by first|rfl|(simp <;> rfl)|(simp [*] <;> rfl),by repeat (first|(with_reducible first|exact HB.out|apply bA|apply bN|apply bD|refine bS ?_ GE382.out)|exact HB.out)⟩
 ·rw [if_neg c3] at H
  exact absurd H (by simp)

def impl_writeAddr.f (a0_0:ByteArray) (l0_1:List ByteArray) (a0_2:Bool) (a0_3:ByteArray):Option (ByteArray):=if 2 + a0_0.size ≤ 9223372036854775807 then ((impl_writePath.f a0_0 l0_1 a0_2 a0_3).bind fun t385=>(if ((⟨#[47,47]⟩:ByteArray) ++ a0_0).size + t385.size ≤ 9223372036854775807 then (some (((⟨#[47,47]⟩:ByteArray) ++ a0_0) ++ t385)) else (none))) else (none)
theorem impl_writeAddr.calls (a0_0:ByteArray) (A0_1:Option Addr) (c0_1:Nat) (l0_1:List ByteArray) (a0_2:Bool) (a0_3:ByteArray) (r:ByteArray) (w:World) (hr0_1:Kd.C Kd.string w A0_1 l0_1.length l0_1) (hc0_1:l0_1.length ≤ c0_1) (h:impl_writeAddr.f a0_0 l0_1 a0_2 a0_3 = some r) :
  Calls Tryd.prog 46 #[.agg #[.string a0_0, .slice A0_1 l0_1.length c0_1, .bool a0_2, .string a0_3]] w fun e w'=>e = .returned (.string r) ∧ Below w.heap.size w w':=by
 have hu25:=Tryd.underlying25
 have HR0_1:=Am hr0_1
 have HC0_1:=Am hc0_1
 clear hr0_1 hc0_1
 have HB:=Am (Below.refl w.heap.size w)
 have H:(if 2 + a0_0.size ≤ 9223372036854775807 then ((impl_writePath.f a0_0 l0_1 a0_2 a0_3).bind fun t385=>(if ((⟨#[47,47]⟩:ByteArray) ++ a0_0).size + t385.size ≤ 9223372036854775807 then (some (((⟨#[47,47]⟩:ByteArray) ++ a0_0) ++ t385)) else (none))) else (none)) = some r:=h
 clear h
 by_cases c2:2 + a0_0.size ≤ 9223372036854775807
 ·rw [if_pos c2] at H
  have c2b0:=eq_true c2
  have c2b1:=decide_eq_true c2
  try have c2b2:(9223372036854775807 < 2 + a0_0.size) = False:=eq_false (Nat.not_lt.2 c2)
  replace H:=bI H
  obtain ⟨t385,A30,H⟩:=H
  replace H:(if ((⟨#[47,47]⟩:ByteArray) ++ a0_0).size + t385.size ≤ 9223372036854775807 then (some (((⟨#[47,47]⟩:ByteArray) ++ a0_0) ++ t385)) else (none)) = some r:=H
  have A3:=Am A30
  clear A30
  by_cases c4:((⟨#[47,47]⟩:ByteArray) ++ a0_0).size + t385.size ≤ 9223372036854775807
  ·rw [if_pos c4] at H
   have c4b0:=eq_true c4
   have c4b1:=decide_eq_true c4
   try have c4b3:(9223372036854775807 < 2 + a0_0.size + t385.size) = False:=eq_false (Nat.not_lt.2 (by have h_:=c4;simp only [ByteArray.size_append] at h_;exact h_))
   try have c4b2:(9223372036854775807 < ((⟨#[47,47]⟩:ByteArray) ++ a0_0).size + t385.size) = False:=eq_false (Nat.not_lt.2 c4)
   obtain rfl:=Option.some.inj H
   go_enter Tryd.func46,Tryd.ntmps46
   try go_wp2_with (first|((with_reducible refine gate_dst (N:=1) rfl ?_);refine box_event ?hg (N:=1) ?hd (cs:=#[.string a0_0, .slice A0_1 l0_1.length c0_1, .bool a0_2, .string a0_3]) (t:=25) ?hr ?_;(case hd=>rfl);(case hg=>rfl);(case hr=>(go_simp <;> rfl));intro gb384 hg w5 hbox hb;have n0_:=Am (bT (by repeat (first|(with_reducible first|exact HB.out|apply bA|apply bN|apply bD)|exact HB.out)) hb);have n1_:=Am (hbox);have n2_:=Am ((by rw [hg];exact (bU (by repeat (first|(with_reducible first|exact HB.out|apply bA|apply bN|apply bD)|exact HB.out))):w.heap.size ≤ gb384));have n3_:=n2_;clear HB;have HB:=n0_;have BK384:=n1_;have GW384:=n2_;have GE384:=n3_;clear n0_ n1_ n2_ n3_ hb hbox hg))
   have n0_:=Am (blk_drew BK384.out)
   have n1_:=Am (below_drew1 HB.out)
   clear BK384
   clear HB
   have BK384:=n0_
   have HB:=n1_
   clear n0_ n1_
   refine start_ (n:=7) (S:=fun w'=>w'.cell? ⟨gb384,0,none⟩ = some (.string a0_0) ∧ w'.cell? ⟨gb384,1,none⟩ = some (.slice A0_1 l0_1.length c0_1) ∧ w'.cell? ⟨gb384,2,none⟩ = some (.bool a0_2) ∧ w'.cell? ⟨gb384,3,none⟩ = some (.string a0_3)) (ds:=[]) #[false,false,false,false,false,false,false] (by kernel_rfl) rfl rfl ⟨bM BK384.out 0 rfl,bM BK384.out 1 rfl,bM BK384.out 2 rfl,bM BK384.out 3 rfl⟩ (fun hHeld=>?_)
   generalize w5.drew = w6 at BK384 HB hHeld ⊢
   refine pure_ (i:=0) (N:=some 3) (v:=?_) (a':=?_) #[true,false,false,false,false,false,false] rfl rfl (by kernel_rfl) (fun _ _ _ h=>h) (Or.inl ⟨by rfl,?_⟩) ?_ ?_
   rotate_left
   ·intro w'
    go_simp
    with_reducible rfl
   rotate_left
   ·simp only [Act.put,lT,lZ,lS,i64_w,i32_w]
    rfl
   refine take_ (i:=1) (N:=some 4) (v:=?_) (a':=?_) #[true,true,false,false,false,false,false] rfl rfl (by kernel_rfl) (fun _ _ _ h=>h) (Or.inl ⟨by rfl,?_⟩) hHeld ?_ ?_
   rotate_left
   ·rintro w' ⟨s0,s1,s2,s3⟩
    go_simp
    with_reducible rfl
   rotate_left
   ·simp only [Act.put,lT,lZ,lS,i64_w,i32_w]
    rfl
   refine pure_ (i:=2) (N:=some 5) (v:=?_) (a':=?_) #[true,true,true,false,false,false,false] rfl rfl (by kernel_rfl) (fun _ _ _ h=>h) (Or.inl ⟨by rfl,?_⟩) ?_ ?_
   rotate_left
   ·intro w'
    go_simp
    with_reducible rfl
   rotate_left
   ·simp only [Act.put,lT,lZ,lS,i64_w,i32_w]
    rfl
   refine take_ (i:=3) (N:=some 6) (v:=?_) (a':=?_) #[true,true,true,true,false,false,false] rfl rfl (by kernel_rfl) (fun _ _ _ h=>h) (Or.inl ⟨by rfl,?_⟩) hHeld ?_ ?_
   rotate_left
   ·rintro w' ⟨s0,s1,s2,s3⟩
    go_simp
    with_reducible rfl
   rotate_left
   ·simp only [Act.put,lT,lZ,lS,i64_w,i32_w]
    rfl
   refine one_ (i:=4) (N:=some 7) #[true,true,true,true,true,false,false] rfl rfl (by kernel_rfl) (by decide) (fun K hK=>?_)
   refine goes_ Tryd.func45 (by kernel_rfl) rfl #[.agg #[.string a0_0, .slice A0_1 l0_1.length c0_1, .bool a0_2, .string a0_3]] (by rfl) rfl rfl (by (try simp only [List.map_toArray,List.map_cons,List.map_nil]);first|done|rfl|(simp only [List.length_drop,List.length_take];rfl)) ?_
   with_reducible refine (impl_writePath.calls a0_0 _ _ l0_1 a0_2 a0_3 t385 _ ?side1 ?side2 A3.out).mono ?_
   (case side1=>repeat (first|exact (Kd.C_below HR0_1.out HB.out)|(with_reducible refine bC ?_)))
   (case side2=>exact HC0_1.out)
   rintro e w7 ⟨rfl,hb⟩
   refine ⟨_,rfl,?_⟩
   have n0_:=Am (blk_below (bB BK384.out) hb)
   have n1_:=Am (bT (by repeat (first|(with_reducible first|exact HB.out|apply bA|apply bN|apply bD|refine bS ?_ GE384.out)|exact HB.out)) hb)
   clear BK384
   clear HB
   have BK384:=n0_
   have HB:=n1_
   clear n0_ n1_
   (try clear hb)
   (try clear hb2)
   (try clear hk)
   (try clear hi)
   refine hK.out _ _ ⟨bM BK384.out 0 rfl,bM BK384.out 1 rfl,bM BK384.out 2 rfl,bM BK384.out 3 rfl⟩ (fun hHeld=>?_)
   clear hK K
   refine norm_ (a':=?_) ?_ ?_
   rotate_left
   ·show Act.put _ (some 7) _ = _
    simp only [Act.put,lT,lZ,lS,i64_w,i32_w]
    rfl
   refine pure_ (i:=5) (N:=some 8) (v:=?_) (a':=?_) #[true,true,true,true,true,true,false] rfl rfl (by kernel_rfl) (fun _ _ _ h=>h) (Or.inl ⟨by rfl,?_⟩) ?_ ?_
   rotate_left
   ·intro w'
    go_simp
    with_reducible rfl
   rotate_left
   ·simp only [Act.put,lT,lZ,lS,i64_w,i32_w]
    rfl
   refine pure_ (i:=6) (N:=some 2) (v:=?_) (a':=?_) #[true,true,true,true,true,true,true] rfl rfl (by kernel_rfl) (fun _ _ _ h=>h) (Or.inl ⟨by rfl,?_⟩) ?_ ?_
   rotate_left
   ·intro w'
    go_simp
    with_reducible rfl
   rotate_left
   ·simp only [Act.put,lT,lZ,lS,i64_w,i32_w]
    rfl
   refine done_ (by kernel_rfl) ?_
   try go_wp2
   go_ret
   exact ⟨by first|rfl|(simp <;> rfl)|(simp [*] <;> rfl),by repeat (first|(with_reducible first|exact HB.out|apply bA|apply bN|apply bD|refine bS ?_ GE384.out)|exact HB.out)⟩
  ·rw [if_neg c4] at H
   exact absurd H (by simp)
 ·rw [if_neg c2] at H
  exact absurd H (by simp)

def impl_allSmallLetters.l0:Nat → ByteArray → Int → Option (Bool)
 | 0,_,_=>none
 | k + 1,x0,x3=>if x3 < (x0.size:Int) then (if 0 ≤ x3 then (if (bt x0 x3) < 97 then (some false) else (if (bt x0 x3) > 122 then (some false) else (impl_allSmallLetters.l0 k x0 (wrap64 (x3 + 1))))) else (none)) else (some true)
def impl_allSmallLetters.f (k:Nat) (a0:ByteArray):Option (Bool):=impl_allSmallLetters.l0 k a0 0
theorem impl_allSmallLetters.mono_l:∀ k,(∀ y0 y1,LeO (impl_allSmallLetters.l0 k y0 y1) (impl_allSmallLetters.l0 (k + 1) y0 y1))
 | 0=>fun _ _ r h=>by simp [impl_allSmallLetters.l0] at h
 | k + 1=>by
  have ih0:=impl_allSmallLetters.mono_l k
  ·intro y0 y1
   unfold impl_allSmallLetters.l0
   repeat' first
   | (with_reducible apply ih0)
   | (with_reducible exact LeO.refl _)
   | (with_reducible exact LeO.none _)
   | (with_reducible refine LeO.ite ?_ ?_)
   | (with_reducible refine LeO.bind ?_ (fun _=>?_))




theorem impl_allSmallLetters.mono:∀ a0 k,LeO (impl_allSmallLetters.f k a0) (impl_allSmallLetters.f (k + 1) a0):=by
 intro a0 k
 have ih0:=impl_allSmallLetters.mono_l k
 unfold impl_allSmallLetters.f
 repeat' first
   | (with_reducible apply ih0)
   | (with_reducible exact LeO.refl _)
   | (with_reducible exact LeO.none _)
   | (with_reducible refine LeO.ite ?_ ?_)
   | (with_reducible refine LeO.bind ?_ (fun _=>?_))




theorem impl_allSmallLetters.calls (k:Nat) (a0:ByteArray) (r:Bool) (w:World) (h:impl_allSmallLetters.f k a0 = some r) :
  Calls Tryd.prog 74 #[.string a0] w fun e w'=>e = .returned (.bool r) ∧ Drawn0 w w':=by
 have H:(impl_allSmallLetters.l0 k a0 0) = some r:=h
 clear h
 have H':=Am H
 clear H
 go_enter Tryd.func74,Tryd.ntmps74
 go_wp2
 go_loopg [3] k (fun kq v3 w'=>∃ (x3_1:Int),v3 = .int .i64 x3_1 ∧ Aside0 (impl_allSmallLetters.l0 kq a0 x3_1 = some r) ∧ Aside0 (kq ≤ k) ∧ Drawn0 w w')
 case atStart=>exact ⟨(0),(by first|rfl|(simp;done)|(simp only [i64_w,i32_w] <;> rfl)|(simp [*];done)|(simp [emp_bne,emp_beq];done)),H',⟨Nat.le_refl _⟩,by repeat (first|exact Drawn0.refl _|apply Drawn0.step)⟩
 case round =>
  clear H'
  obtain ⟨x3_1,rfl,HA,HK1,⟨m1,rfl⟩⟩:=hrel
  cases gk with
  | zero=>exact absurd HA.out (by simp [impl_allSmallLetters.l0])
  | succ k1 =>
   have H:=HA.out
   clear HA
   simp only [impl_allSmallLetters.l0] at H
   by_cases c2:x3_1 < (a0.size:Int)
   ·rw [if_pos c2] at H
    have c2b0:decide (x3_1 < (a0.size:Int)) = true:=decide_eq_true c2
    clear c2
    by_cases c3:0 ≤ x3_1
    ·rw [if_pos c3] at H
     have c3b0:decide (0 ≤ x3_1) = true:=decide_eq_true c3
     clear c3
     by_cases c5:(bt a0 x3_1) < 97
     ·rw [if_pos c5] at H
      have c5b0:decide ((bt a0 x3_1) < 97) = true:=decide_eq_true c5
      clear c5
      obtain rfl:=Option.some.inj H
      have p4:0 ≤ (x3_1:Int):=oD (by assumption)
      have q4:x3_1 < (a0.size:Int):=oD (by assumption)
      have hx4:=bt_at a0 x3_1
      replace p4:=eq_true p4
      replace q4:=eq_true q4
      go_wp2
      go_ret
      exact ⟨by first|rfl|(simp;done)|(simp only [i64_w,i32_w] <;> rfl)|(simp [*];done)|(simp [emp_bne,emp_beq];done),by repeat (first|exact Drawn0.refl _|apply Drawn0.step)⟩
     ·rw [if_neg c5] at H
      have c5b0:decide ((bt a0 x3_1) < 97) = false:=decide_eq_false c5
      clear c5
      by_cases c7:(bt a0 x3_1) > 122
      ·rw [if_pos c7] at H
       have c7b0:decide (122 < (bt a0 x3_1)) = true:=decide_eq_true c7
       clear c7
       obtain rfl:=Option.some.inj H
       have p4:0 ≤ (x3_1:Int):=oD (by assumption)
       have q4:x3_1 < (a0.size:Int):=oD (by assumption)
       have hx4:=bt_at a0 x3_1
       replace p4:=eq_true p4
       replace q4:=eq_true q4
       have p6:0 ≤ (x3_1:Int):=oD (by assumption)
       have q6:x3_1 < (a0.size:Int):=oD (by assumption)
       have hx6:=bt_at a0 x3_1
       replace p6:=eq_true p6
       replace q6:=eq_true q6
       go_wp2
       go_ret
       exact ⟨by first|rfl|(simp;done)|(simp only [i64_w,i32_w] <;> rfl)|(simp [*];done)|(simp [emp_bne,emp_beq];done),by repeat (first|exact Drawn0.refl _|apply Drawn0.step)⟩
      ·rw [if_neg c7] at H
       have c7b0:decide (122 < (bt a0 x3_1)) = false:=decide_eq_false c7
       clear c7
       have H':=Am H
       clear H
       have p4:0 ≤ (x3_1:Int):=oD (by assumption)
       have q4:x3_1 < (a0.size:Int):=oD (by assumption)
       have hx4:=bt_at a0 x3_1
       replace p4:=eq_true p4
       replace q4:=eq_true q4
       have p6:0 ≤ (x3_1:Int):=oD (by assumption)
       have q6:x3_1 < (a0.size:Int):=oD (by assumption)
       have hx6:=bt_at a0 x3_1
       replace p6:=eq_true p6
       replace q6:=eq_true q6
       go_wp2
       go_roundg k1
       case measure=>have:=HK1.out;omega
       case rel=>exact ⟨(wrap64 (x3_1 + 1)),(by first|rfl|(simp;done)|(simp only [i64_w,i32_w] <;> rfl)|(simp [*];done)|(simp [emp_bne,emp_beq];done)),H',⟨by have:=HK1.out;omega⟩,by repeat (first|exact Drawn0.refl _|apply Drawn0.step)⟩
    ·rw [if_neg c3] at H
     exact absurd H (by simp)
   ·rw [if_neg c2] at H
    have c2b0:decide (x3_1 < (a0.size:Int)) = false:=decide_eq_false c2
    clear c2
    obtain rfl:=Option.some.inj H
    go_wp2
    go_ret
    exact ⟨by first|rfl|(simp;done)|(simp only [i64_w,i32_w] <;> rfl)|(simp [*];done)|(simp [emp_bne,emp_beq];done),by repeat (first|exact Drawn0.refl _|apply Drawn0.step)⟩

def impl_isHouse.f (k:Nat) (a0:ByteArray):Option (Bool):=if (a0.size:Int) ≥ 1 then (if (a0.size:Int) ≤ 5 then ((impl_allSmallLetters.f k a0).bind fun t386=>(some t386)) else (some false)) else (some false)
theorem impl_isHouse.mono:∀ a0 k,LeO (impl_isHouse.f k a0) (impl_isHouse.f (k + 1) a0):=by
 intro a0 k
 unfold impl_isHouse.f
 repeat' first
   | (with_reducible apply impl_allSmallLetters.mono)
   | (with_reducible exact LeO.refl _)
   | (with_reducible exact LeO.none _)
   | (with_reducible refine LeO.ite ?_ ?_)
   | (with_reducible refine LeO.bind ?_ (fun _=>?_))




theorem impl_isHouse.calls (k:Nat) (a0:ByteArray) (r:Bool) (w:World) (h:impl_isHouse.f k a0 = some r) :
  Calls Tryd.prog 55 #[.string a0] w fun e w'=>e = .returned (.bool r) ∧ Drawn0 w w':=by
 have H:(if (a0.size:Int) ≥ 1 then (if (a0.size:Int) ≤ 5 then ((impl_allSmallLetters.f k a0).bind fun t386=>(some t386)) else (some false)) else (some false)) = some r:=h
 clear h
 by_cases c2:(a0.size:Int) ≥ 1
 ·rw [if_pos c2] at H
  have c2b0:decide (1 ≤ (a0.size:Int)) = true:=decide_eq_true c2
  have c2b1:decide (1 ≤ a0.size) = true:=decide_eq_true (by omega)
  clear c2
  by_cases c3:(a0.size:Int) ≤ 5
  ·rw [if_pos c3] at H
   have c3b0:decide ((a0.size:Int) ≤ 5) = true:=decide_eq_true c3
   have c3b1:decide (a0.size ≤ 5) = true:=decide_eq_true (by omega)
   clear c3
   replace H:=bI H
   obtain ⟨t386,A40,H⟩:=H
   replace H:(some t386) = some r:=H
   have A4:=Am A40
   clear A40
   obtain rfl:=Option.some.inj H
   go_enter Tryd.func55,Tryd.ntmps55
   go_wp2_with (first|(go_at_call 74;(with_reducible refine (impl_allSmallLetters.calls k a0 t386 _ A4.out).mono ?_);rintro e w' ⟨rfl,⟨nd,rfl⟩⟩))
   go_ret
   exact ⟨by first|rfl|(simp;done)|(simp only [i64_w,i32_w] <;> rfl)|(simp [*];done)|(simp [emp_bne,emp_beq];done),by repeat (first|exact Drawn0.refl _|apply Drawn0.step)⟩
  ·rw [if_neg c3] at H
   have c3b0:decide ((a0.size:Int) ≤ 5) = false:=decide_eq_false c3
   have c3b1:decide (a0.size ≤ 5) = false:=decide_eq_false (by omega)
   clear c3
   obtain rfl:=Option.some.inj H
   go_enter Tryd.func55,Tryd.ntmps55
   go_wp2
   go_ret
   exact ⟨by first|rfl|(simp;done)|(simp only [i64_w,i32_w] <;> rfl)|(simp [*];done)|(simp [emp_bne,emp_beq];done),by repeat (first|exact Drawn0.refl _|apply Drawn0.step)⟩
 ·rw [if_neg c2] at H
  have c2b0:decide (1 ≤ (a0.size:Int)) = false:=decide_eq_false c2
  have c2b1:decide (1 ≤ a0.size) = false:=decide_eq_false (by omega)
  clear c2
  obtain rfl:=Option.some.inj H
  go_enter Tryd.func55,Tryd.ntmps55
  go_wp2
  go_ret
  exact ⟨by first|rfl|(simp;done)|(simp only [i64_w,i32_w] <;> rfl)|(simp [*];done)|(simp [emp_bne,emp_beq];done),by repeat (first|exact Drawn0.refl _|apply Drawn0.step)⟩

def impl_figureValue.f (a0:Int):Option (Int × Bool) :=
 if 0 ≤ a0 ∧ a0 ≤ 255 then some (if 48 ≤ a0 ∧ a0 ≤ 57 then (a0 - 48,true) else if 65 ≤ a0 ∧ a0 ≤ 70 then (a0 - 55,true) else if 97 ≤ a0 ∧ a0 ≤ 102 then (a0 - 87,true) else (0,false)) else none
def impl_figureValue.hex:ByteArray:=⟨#[48,49,50,51,52,53,54,55,56,57,65,66,67,68,69,70]⟩
def impl_figureValue.fig (p:Nat):Nat:=if p < 10 then 48 + p else 55 + p
theorem impl_figureValue.decode (p:Nat) (h:p < 16):Utf8.decode impl_figureValue.hex p = (impl_figureValue.fig p,1):=by
 have hc:p = 0 ∨ p = 1 ∨ p = 2 ∨ p = 3 ∨ p = 4 ∨ p = 5 ∨ p = 6 ∨ p = 7 ∨ p = 8 ∨ p = 9 ∨ p = 10 ∨ p = 11 ∨ p = 12 ∨ p = 13 ∨ p = 14 ∨ p = 15:=by omega
 rcases hc with rfl|rfl|rfl|rfl|rfl|rfl|rfl|rfl|rfl|rfl|rfl|rfl|rfl|rfl|rfl|rfl <;> rfl
def impl_figureValue.up (a0:Int):Int:=if 97 ≤ a0 ∧ a0 ≤ 102 then a0 - 32 else a0
theorem impl_figureValue.hit {a0:Int} {p:Nat} (h0:0 ≤ a0) (h1:a0 ≤ 255) (hp:p < 16) (h:(impl_figureValue.fig p:Int) = impl_figureValue.up a0):impl_figureValue.f a0 = some ((p:Int),true):=by
 unfold impl_figureValue.f
 rw [if_pos ⟨h0,h1⟩]
 unfold impl_figureValue.fig impl_figureValue.up at h
 congr 1
 repeat' split at h
 all_goals repeat' split
 all_goals first|(simp only [Prod.mk.injEq,and_true];omega)|(exfalso;omega)
theorem impl_figureValue.miss {a0:Int} (h0:0 ≤ a0) (h1:a0 ≤ 255) (h:∀ p:Nat,p < 16 → (impl_figureValue.fig p:Int) ≠ impl_figureValue.up a0):impl_figureValue.f a0 = some (0,false):=by
 unfold impl_figureValue.f
 rw [if_pos ⟨h0,h1⟩]
 unfold impl_figureValue.fig impl_figureValue.up at h
 by_cases c1:48 ≤ a0 ∧ a0 ≤ 57
 ·exfalso
  have:=h (a0 - 48).toNat (by omega)
  rw [if_pos (by omega),if_neg (by omega)] at this;omega
 by_cases c2:65 ≤ a0 ∧ a0 ≤ 70
 ·exfalso
  have:=h (a0 - 55).toNat (by omega)
  rw [if_neg (by omega),if_neg (by omega)] at this;omega
 by_cases c3:97 ≤ a0 ∧ a0 ≤ 102
 ·exfalso
  have:=h (a0 - 87).toNat (by omega)
  rw [if_neg (by omega),if_pos c3] at this;omega
 rw [if_neg c1,if_neg c2,if_neg c3]
theorem impl_figureValue.fig_bd (p:Nat) (h:p < 16):48 ≤ impl_figureValue.fig p ∧ impl_figureValue.fig p ≤ 70:=by
 unfold impl_figureValue.fig;split <;> omega
def impl_figureValue.Missed (a0:Int) (n:Nat):Prop:=∀ p:Nat,p < n → (impl_figureValue.fig p:Int) ≠ impl_figureValue.up a0
theorem impl_figureValue.below (w:World) (p:Nat):Below w.heap.size w (w.iter impl_figureValue.hex p):=below_alloc (Below.refl _ _) _
theorem impl_figureValue.calls (a0:Int) (r1:Int) (r2:Bool) (w:World) (h:impl_figureValue.f a0 = some (r1,r2)) :
  Calls Tryd.prog 98 #[.int .u8 a0] w fun e w'=>e = .returned (.tuple #[.int .i64 r1, .bool r2]) ∧ Below w.heap.size w w':=by
 have hb:0 ≤ a0 ∧ a0 ≤ 255:=by
  unfold impl_figureValue.f at h
  split at h
  ·assumption
  ·cases h
 obtain ⟨h0,h1⟩:=hb
 have HH:=Am h
 clear h
 have HX:=Am (fun (p:Nat) (ty:TypeId) (hp:p < impl_figureValue.hex.size)=>run_next_any (P:=Tryd.prog) w impl_figureValue.hex p ty hp)
 have HE:=Am (fun (p:Nat) (ty:TypeId) (hp:¬ p < impl_figureValue.hex.size)=>run_next_end (P:=Tryd.prog) w impl_figureValue.hex p ty hp)
 by_cases c:97 ≤ a0 ∧ a0 ≤ 102
 ·obtain ⟨c1,c2⟩:=c
  have HU:=Am (show impl_figureValue.up a0 = a0 - 32 by unfold impl_figureValue.up;rw [if_pos ⟨c1,c2⟩])
  go_enter Tryd.func98,Tryd.ntmps98
  go_wp2
  go_loopw [] (fun w'=>∃ p:Nat,p ≤ 16 ∧ w' = w.iter impl_figureValue.hex p ∧ Aside0 (impl_figureValue.Missed a0 p)) (fun w'=>16 - w'.iterPos w.heap.size)
  case atStart=>exact ⟨0,Nat.zero_le _,rfl,⟨fun p hp=>absurd hp (by omega)⟩⟩
  case round =>
   obtain ⟨p,hp,rfl,HM⟩:=hrel
   by_cases hlt:p < 16
   ·have hx:∀ ty,(Instr.next (.pointer (some ⟨w.heap.size,0,none⟩)) true ty).run Tryd.prog (w.iter impl_figureValue.hex p) = .ok (.tuple #[.bool true, .int .i64 p, .int .i32 (impl_figureValue.fig p)]) (w.iter impl_figureValue.hex (p + 1)):=fun ty=>by
     rw [HX.out p ty hlt,impl_figureValue.decode p hlt]
    have hf:=impl_figureValue.fig_bd p hlt
    by_cases he:(impl_figureValue.fig p:Int) = a0 - 32
    ·have hr:=HH.out
     rw [impl_figureValue.hit h0 h1 hlt (he.trans HU.out.symm)] at hr
     obtain ⟨rfl,rfl⟩:=Prod.mk.inj (Option.some.inj hr)
     have hd:((impl_figureValue.fig p:Int) == a0 - 32) = true:=beq_iff_eq.mpr he
     clear he hr
     go_wp2
     go_ret2
     exact ⟨rfl,impl_figureValue.below w _⟩
    ·have hd:((impl_figureValue.fig p:Int) == a0 - 32) = false:=beq_eq_false_iff_ne.mpr he
     have HM2:=Am (show impl_figureValue.Missed a0 (p + 1) from fun q hq=>by
      rcases Nat.lt_or_ge q p with hqp|hqp
      ·exact HM.out q hqp
      ·obtain rfl:q = p:=by omega
       rw [HU.out];exact he)
     clear he
     go_wp2
     go_roundw
     case rel=>exact ⟨p + 1,by omega,rfl,HM2⟩
     case measure=>simp;omega
   ·obtain rfl:p = 16:=by omega
    have hx:=fun ty=>HE.out 16 ty (by decide)
    have hr:=HH.out
    rw [impl_figureValue.miss h0 h1 HM.out] at hr
    obtain ⟨rfl,rfl⟩:=Prod.mk.inj (Option.some.inj hr)
    clear hr
    go_wp2
    go_ret2
    exact ⟨rfl,impl_figureValue.below w _⟩
 by_cases c1:97 ≤ a0
 ·have c2:decide (a0 ≤ 102) = false:=decide_eq_false (fun h=>c ⟨c1,h⟩)
  have HU:=Am (show impl_figureValue.up a0 = a0 by unfold impl_figureValue.up;rw [if_neg c])
  clear c
  go_enter Tryd.func98,Tryd.ntmps98
  go_wp2
  go_loopw [] (fun w'=>∃ p:Nat,p ≤ 16 ∧ w' = w.iter impl_figureValue.hex p ∧ Aside0 (impl_figureValue.Missed a0 p)) (fun w'=>16 - w'.iterPos w.heap.size)
  case atStart=>exact ⟨0,Nat.zero_le _,rfl,⟨fun p hp=>absurd hp (by omega)⟩⟩
  case round =>
   obtain ⟨p,hp,rfl,HM⟩:=hrel
   by_cases hlt:p < 16
   ·have hx:∀ ty,(Instr.next (.pointer (some ⟨w.heap.size,0,none⟩)) true ty).run Tryd.prog (w.iter impl_figureValue.hex p) = .ok (.tuple #[.bool true, .int .i64 p, .int .i32 (impl_figureValue.fig p)]) (w.iter impl_figureValue.hex (p + 1)):=fun ty=>by
     rw [HX.out p ty hlt,impl_figureValue.decode p hlt]
    have hf:=impl_figureValue.fig_bd p hlt
    by_cases he:(impl_figureValue.fig p:Int) = a0
    ·have hr:=HH.out
     rw [impl_figureValue.hit h0 h1 hlt (he.trans HU.out.symm)] at hr
     obtain ⟨rfl,rfl⟩:=Prod.mk.inj (Option.some.inj hr)
     have hd:((impl_figureValue.fig p:Int) == a0) = true:=beq_iff_eq.mpr he
     clear he hr
     go_wp2
     go_ret2
     exact ⟨rfl,impl_figureValue.below w _⟩
    ·have hd:((impl_figureValue.fig p:Int) == a0) = false:=beq_eq_false_iff_ne.mpr he
     have HM2:=Am (show impl_figureValue.Missed a0 (p + 1) from fun q hq=>by
      rcases Nat.lt_or_ge q p with hqp|hqp
      ·exact HM.out q hqp
      ·obtain rfl:q = p:=by omega
       rw [HU.out];exact he)
     clear he
     go_wp2
     go_roundw
     case rel=>exact ⟨p + 1,by omega,rfl,HM2⟩
     case measure=>simp;omega
   ·obtain rfl:p = 16:=by omega
    have hx:=fun ty=>HE.out 16 ty (by decide)
    have hr:=HH.out
    rw [impl_figureValue.miss h0 h1 HM.out] at hr
    obtain ⟨rfl,rfl⟩:=Prod.mk.inj (Option.some.inj hr)
    clear hr
    go_wp2
    go_ret2
    exact ⟨rfl,impl_figureValue.below w _⟩
 ·have c2:decide (97 ≤ a0) = false:=decide_eq_false c1
  have HU:=Am (show impl_figureValue.up a0 = a0 by unfold impl_figureValue.up;rw [if_neg c])
  clear c c1
  go_enter Tryd.func98,Tryd.ntmps98
  go_wp2
  go_loopw [] (fun w'=>∃ p:Nat,p ≤ 16 ∧ w' = w.iter impl_figureValue.hex p ∧ Aside0 (impl_figureValue.Missed a0 p)) (fun w'=>16 - w'.iterPos w.heap.size)
  case atStart=>exact ⟨0,Nat.zero_le _,rfl,⟨fun p hp=>absurd hp (by omega)⟩⟩
  case round =>
   obtain ⟨p,hp,rfl,HM⟩:=hrel
   by_cases hlt:p < 16
   ·have hx:∀ ty,(Instr.next (.pointer (some ⟨w.heap.size,0,none⟩)) true ty).run Tryd.prog (w.iter impl_figureValue.hex p) = .ok (.tuple #[.bool true, .int .i64 p, .int .i32 (impl_figureValue.fig p)]) (w.iter impl_figureValue.hex (p + 1)):=fun ty=>by
     rw [HX.out p ty hlt,impl_figureValue.decode p hlt]
    have hf:=impl_figureValue.fig_bd p hlt
    by_cases he:(impl_figureValue.fig p:Int) = a0
    ·have hr:=HH.out
     rw [impl_figureValue.hit h0 h1 hlt (he.trans HU.out.symm)] at hr
     obtain ⟨rfl,rfl⟩:=Prod.mk.inj (Option.some.inj hr)
     have hd:((impl_figureValue.fig p:Int) == a0) = true:=beq_iff_eq.mpr he
     clear he hr
     go_wp2
     go_ret2
     exact ⟨rfl,impl_figureValue.below w _⟩
    ·have hd:((impl_figureValue.fig p:Int) == a0) = false:=beq_eq_false_iff_ne.mpr he
     have HM2:=Am (show impl_figureValue.Missed a0 (p + 1) from fun q hq=>by
      rcases Nat.lt_or_ge q p with hqp|hqp
      ·exact HM.out q hqp
      ·obtain rfl:q = p:=by omega
       rw [HU.out];exact he)
     clear he
     go_wp2
     go_roundw
     case rel=>exact ⟨p + 1,by omega,rfl,HM2⟩
     case measure=>simp;omega
   ·obtain rfl:p = 16:=by omega
    have hx:=fun ty=>HE.out 16 ty (by decide)
    have hr:=HH.out
    rw [impl_figureValue.miss h0 h1 HM.out] at hr
    obtain ⟨rfl,rfl⟩:=Prod.mk.inj (Option.some.inj hr)
    clear hr
    go_wp2
    go_ret2
    exact ⟨rfl,impl_figureValue.below w _⟩

def impl_signByte.f (a0:ByteArray) (a1:Int):Option (Int × Bool):=if (wrap64 ((a0.size:Int) - a1)) < 3 then (some (0,false)) else (if 0 ≤ (wrap64 (a1 + 1)) then (if (wrap64 (a1 + 1)) < (a0.size:Int) then ((impl_figureValue.f (bt a0 (wrap64 (a1 + 1)))).bind fun bt387=>(if 0 ≤ (wrap64 (a1 + 2)) then (if (wrap64 (a1 + 2)) < (a0.size:Int) then ((impl_figureValue.f (bt a0 (wrap64 (a1 + 2)))).bind fun bt389=>(if bt387.2 = true then (if bt389.2 = true then (some ((wrap64 ((wrap64 (bt387.1 * 16)) + bt389.1)) % 256,true)) else (some (0,false))) else (some (0,false)))) else (none)) else (none))) else (none)) else (none))
theorem impl_signByte.calls (a0:ByteArray) (a1:Int) (r1:Int) (r2:Bool) (w:World) (h:impl_signByte.f a0 a1 = some (r1,r2)) :
  Calls Tryd.prog 86 #[.string a0, .int .i64 a1] w fun e w'=>e = .returned (.tuple #[.int .u8 r1, .bool r2]) ∧ Below w.heap.size w w':=by
 have HB:=Am (Below.refl w.heap.size w)
 have H:(if (wrap64 ((a0.size:Int) - a1)) < 3 then (some (0,false)) else (if 0 ≤ (wrap64 (a1 + 1)) then (if (wrap64 (a1 + 1)) < (a0.size:Int) then ((impl_figureValue.f (bt a0 (wrap64 (a1 + 1)))).bind fun bt387=>(if 0 ≤ (wrap64 (a1 + 2)) then (if (wrap64 (a1 + 2)) < (a0.size:Int) then ((impl_figureValue.f (bt a0 (wrap64 (a1 + 2)))).bind fun bt389=>(if bt387.2 = true then (if bt389.2 = true then (some ((wrap64 ((wrap64 (bt387.1 * 16)) + bt389.1)) % 256,true)) else (some (0,false))) else (some (0,false)))) else (none)) else (none))) else (none)) else (none))) = some (r1,r2):=h
 clear h
 by_cases c3:(wrap64 ((a0.size:Int) - a1)) < 3
 ·rw [if_pos c3] at H
  have c3b0:decide ((wrap64 ((a0.size:Int) - a1)) < 3) = true:=decide_eq_true c3
  clear c3
  simp only [Option.some.injEq,Prod.mk.injEq] at H
  obtain ⟨rfl,rfl⟩:=H
  go_enter Tryd.func86,Tryd.ntmps86
  go_wp2
  go_ret2
  exact ⟨by first|rfl|(simp <;> rfl)|(simp [*] <;> rfl),by repeat (first|(with_reducible first|exact HB.out|apply bA|apply bN|apply bD)|exact HB.out)⟩
 ·rw [if_neg c3] at H
  have c3b0:decide ((wrap64 ((a0.size:Int) - a1)) < 3) = false:=decide_eq_false c3
  clear c3
  obtain ⟨ji4,hji4⟩:∃ j_:Int,(wrap64 (a1 + 1)) = j_:=⟨_,rfl⟩
  replace H:(if 0 ≤ (ji4) then (if (ji4) < (a0.size:Int) then ((impl_figureValue.f (bt a0 (ji4))).bind fun bt387=>(if 0 ≤ (wrap64 (a1 + 2)) then (if (wrap64 (a1 + 2)) < (a0.size:Int) then ((impl_figureValue.f (bt a0 (wrap64 (a1 + 2)))).bind fun bt389=>(if bt387.2 = true then (if bt389.2 = true then (some ((wrap64 ((wrap64 (bt387.1 * 16)) + bt389.1)) % 256,true)) else (some (0,false))) else (some (0,false)))) else (none)) else (none))) else (none)) else (none)) = some (r1,r2):=by first|(rw [hji4] at H;exact H)|(simp only [hji4] at H ⊢;exact H)
  have hji4w:(IntKind.i64.wrap (a1 + 1)) = ji4:=(i64_w _).trans hji4
  by_cases c5:0 ≤ (ji4)
  ·rw [if_pos c5] at H
   have c5b0:decide (0 ≤ (ji4)) = true:=decide_eq_true c5
   clear c5
   by_cases c6:(ji4) < (a0.size:Int)
   ·rw [if_pos c6] at H
    have c6b0:decide ((ji4) < (a0.size:Int)) = true:=decide_eq_true c6
    clear c6
    replace H:=bI H
    obtain ⟨⟨t387,t388⟩,A80,H⟩:=H
    replace H:(if 0 ≤ (wrap64 (a1 + 2)) then (if (wrap64 (a1 + 2)) < (a0.size:Int) then ((impl_figureValue.f (bt a0 (wrap64 (a1 + 2)))).bind fun bt389=>(if t388 = true then (if bt389.2 = true then (some ((wrap64 ((wrap64 (t387 * 16)) + bt389.1)) % 256,true)) else (some (0,false))) else (some (0,false)))) else (none)) else (none)) = some (r1,r2):=H
    have A8:=Am A80
    clear A80
    obtain ⟨ji9,hji9⟩:∃ j_:Int,(wrap64 (a1 + 2)) = j_:=⟨_,rfl⟩
    replace H:(if 0 ≤ (ji9) then (if (ji9) < (a0.size:Int) then ((impl_figureValue.f (bt a0 (ji9))).bind fun bt389=>(if t388 = true then (if bt389.2 = true then (some ((wrap64 ((wrap64 (t387 * 16)) + bt389.1)) % 256,true)) else (some (0,false))) else (some (0,false)))) else (none)) else (none)) = some (r1,r2):=by first|(rw [hji9] at H;exact H)|(simp only [hji9] at H ⊢;exact H)
    (try rw [hji9] at A8)
    have hji9w:(IntKind.i64.wrap (a1 + 2)) = ji9:=(i64_w _).trans hji9
    by_cases c10:0 ≤ (ji9)
    ·rw [if_pos c10] at H
     have c10b0:decide (0 ≤ (ji9)) = true:=decide_eq_true c10
     clear c10
     by_cases c11:(ji9) < (a0.size:Int)
     ·rw [if_pos c11] at H
      have c11b0:decide ((ji9) < (a0.size:Int)) = true:=decide_eq_true c11
      clear c11
      replace H:=bI H
      obtain ⟨⟨t389,t390⟩,A130,H⟩:=H
      replace H:(if t388 = true then (if t390 = true then (some ((wrap64 ((wrap64 (t387 * 16)) + t389)) % 256,true)) else (some (0,false))) else (some (0,false))) = some (r1,r2):=H
      have A13:=Am A130
      clear A130
      by_cases c14:t388 = true
      ·subst c14
       have H1:(if t390 = true then (some ((wrap64 ((wrap64 (t387 * 16)) + t389)) % 256,true)) else (some (0,false))) = some (r1,r2):=by rw [if_pos rfl] at H;exact H
       clear H
       have H:=H1
       clear H1
       by_cases c15:t390 = true
       ·subst c15
        have H1:(some ((wrap64 ((wrap64 (t387 * 16)) + t389)) % 256,true)) = some (r1,r2):=by rw [if_pos rfl] at H;exact H
        clear H
        have H:=H1
        clear H1
        simp only [Option.some.injEq,Prod.mk.injEq] at H
        obtain ⟨rfl,rfl⟩:=H
        have p7:0 ≤ ((ji4):Int):=oD (by assumption)
        have q7:(ji4) < (a0.size:Int):=oD (by assumption)
        have hx7:=bt_at a0 (ji4)
        replace p7:=eq_true p7
        replace q7:=eq_true q7
        go_enter Tryd.func86,Tryd.ntmps86
        go_wp2_with (first|((with_reducible refine gate_callee (f:=98) rfl ?_);refine goesL_ (some 20) rfl rfl Tryd.func98 (by kernel_rfl) rfl #[.int .u8 (bt a0 (ji4))] rfl (by (try simp only [List.map_toArray,List.map_cons,List.map_nil]);first|done|(simp only [hji4];rfl)|rfl|(simp only [Act.eval,Array.getD_eq_getD_getElem?,Option.getD_some, *];done)|(simp [Act.eval,Array.getD_eq_getD_getElem?, *];done)|(simp only [List.length_drop,List.length_take];rfl)) ?_;(with_reducible refine (impl_figureValue.calls (bt a0 (ji4)) t387 true _ A8.out).mono ?_);rintro e w16 ⟨rfl,hb⟩;refine ⟨_,rfl,?_⟩;have n0_:=Am (bT (by repeat (first|(with_reducible first|exact HB.out|apply bA|apply bN|apply bD)|exact HB.out)) hb);clear HB;have HB:=n0_;clear n0_;(try clear hb);have p12:0 ≤ ((ji9):Int):=oD (by assumption);have q12:(ji9) < (a0.size:Int):=oD (by assumption);have hx12:=bt_at a0 (ji9);replace p12:=eq_true p12;replace q12:=eq_true q12)|((with_reducible refine gate_callee (f:=98) rfl ?_);refine goesL_ (some 28) rfl rfl Tryd.func98 (by kernel_rfl) rfl #[.int .u8 (bt a0 (ji9))] rfl (by (try simp only [List.map_toArray,List.map_cons,List.map_nil]);first|done|(simp only [hji9];rfl)|rfl|(simp only [Act.eval,Array.getD_eq_getD_getElem?,Option.getD_some, *];done)|(simp [Act.eval,Array.getD_eq_getD_getElem?, *];done)|(simp only [List.length_drop,List.length_take];rfl)) ?_;(with_reducible refine (impl_figureValue.calls (bt a0 (ji9)) t389 true _ A13.out).mono ?_);rintro e w17 ⟨rfl,hb⟩;refine ⟨_,rfl,?_⟩;have n0_:=Am (bT (by repeat (first|(with_reducible first|exact HB.out|apply bA|apply bN|apply bD)|exact HB.out)) hb);clear HB;have HB:=n0_;clear n0_;(try clear hb)))
        go_ret2
        exact ⟨by first|rfl|(simp <;> rfl)|(simp only [← hji4,← hji9];first|rfl|(simp <;> rfl))|(simp [*] <;> rfl),by repeat (first|(with_reducible first|exact HB.out|apply bA|apply bN|apply bD)|exact HB.out)⟩
       ·replace c15:=Bool.eq_false_iff.mpr c15
        subst c15
        have H1:(some (0,false)) = some (r1,r2):=by rw [if_neg (show ¬ (false = true) by decide)] at H;exact H
        clear H
        have H:=H1
        clear H1
        simp only [Option.some.injEq,Prod.mk.injEq] at H
        obtain ⟨rfl,rfl⟩:=H
        have p7:0 ≤ ((ji4):Int):=oD (by assumption)
        have q7:(ji4) < (a0.size:Int):=oD (by assumption)
        have hx7:=bt_at a0 (ji4)
        replace p7:=eq_true p7
        replace q7:=eq_true q7
        go_enter Tryd.func86,Tryd.ntmps86
        go_wp2_with (first|((with_reducible refine gate_callee (f:=98) rfl ?_);refine goesL_ (some 20) rfl rfl Tryd.func98 (by kernel_rfl) rfl #[.int .u8 (bt a0 (ji4))] rfl (by (try simp only [List.map_toArray,List.map_cons,List.map_nil]);first|done|(simp only [hji4];rfl)|rfl|(simp only [Act.eval,Array.getD_eq_getD_getElem?,Option.getD_some, *];done)|(simp [Act.eval,Array.getD_eq_getD_getElem?, *];done)|(simp only [List.length_drop,List.length_take];rfl)) ?_;(with_reducible refine (impl_figureValue.calls (bt a0 (ji4)) t387 true _ A8.out).mono ?_);rintro e w18 ⟨rfl,hb⟩;refine ⟨_,rfl,?_⟩;have n0_:=Am (bT (by repeat (first|(with_reducible first|exact HB.out|apply bA|apply bN|apply bD)|exact HB.out)) hb);clear HB;have HB:=n0_;clear n0_;(try clear hb);have p12:0 ≤ ((ji9):Int):=oD (by assumption);have q12:(ji9) < (a0.size:Int):=oD (by assumption);have hx12:=bt_at a0 (ji9);replace p12:=eq_true p12;replace q12:=eq_true q12)|((with_reducible refine gate_callee (f:=98) rfl ?_);refine goesL_ (some 28) rfl rfl Tryd.func98 (by kernel_rfl) rfl #[.int .u8 (bt a0 (ji9))] rfl (by (try simp only [List.map_toArray,List.map_cons,List.map_nil]);first|done|(simp only [hji9];rfl)|rfl|(simp only [Act.eval,Array.getD_eq_getD_getElem?,Option.getD_some, *];done)|(simp [Act.eval,Array.getD_eq_getD_getElem?, *];done)|(simp only [List.length_drop,List.length_take];rfl)) ?_;(with_reducible refine (impl_figureValue.calls (bt a0 (ji9)) t389 false _ A13.out).mono ?_);rintro e w19 ⟨rfl,hb⟩;refine ⟨_,rfl,?_⟩;have n0_:=Am (bT (by repeat (first|(with_reducible first|exact HB.out|apply bA|apply bN|apply bD)|exact HB.out)) hb);clear HB;have HB:=n0_;clear n0_;(try clear hb)))
        go_ret2
        exact ⟨by first|rfl|(simp <;> rfl)|(simp only [← hji4,← hji9];first|rfl|(simp <;> rfl))|(simp [*] <;> rfl),by repeat (first|(with_reducible first|exact HB.out|apply bA|apply bN|apply bD)|exact HB.out)⟩
      ·replace c14:=Bool.eq_false_iff.mpr c14
       subst c14
       have H1:(some (0,false)) = some (r1,r2):=by rw [if_neg (show ¬ (false = true) by decide)] at H;exact H
       clear H
       have H:=H1
       clear H1
       simp only [Option.some.injEq,Prod.mk.injEq] at H
       obtain ⟨rfl,rfl⟩:=H
       have p7:0 ≤ ((ji4):Int):=oD (by assumption)
       have q7:(ji4) < (a0.size:Int):=oD (by assumption)
       have hx7:=bt_at a0 (ji4)
       replace p7:=eq_true p7
       replace q7:=eq_true q7
       go_enter Tryd.func86,Tryd.ntmps86
       go_wp2_with (first|((with_reducible refine gate_callee (f:=98) rfl ?_);refine goesL_ (some 20) rfl rfl Tryd.func98 (by kernel_rfl) rfl #[.int .u8 (bt a0 (ji4))] rfl (by (try simp only [List.map_toArray,List.map_cons,List.map_nil]);first|done|(simp only [hji4];rfl)|rfl|(simp only [Act.eval,Array.getD_eq_getD_getElem?,Option.getD_some, *];done)|(simp [Act.eval,Array.getD_eq_getD_getElem?, *];done)|(simp only [List.length_drop,List.length_take];rfl)) ?_;(with_reducible refine (impl_figureValue.calls (bt a0 (ji4)) t387 false _ A8.out).mono ?_);rintro e w20 ⟨rfl,hb⟩;refine ⟨_,rfl,?_⟩;have n0_:=Am (bT (by repeat (first|(with_reducible first|exact HB.out|apply bA|apply bN|apply bD)|exact HB.out)) hb);clear HB;have HB:=n0_;clear n0_;(try clear hb);have p12:0 ≤ ((ji9):Int):=oD (by assumption);have q12:(ji9) < (a0.size:Int):=oD (by assumption);have hx12:=bt_at a0 (ji9);replace p12:=eq_true p12;replace q12:=eq_true q12)|((with_reducible refine gate_callee (f:=98) rfl ?_);refine goesL_ (some 28) rfl rfl Tryd.func98 (by kernel_rfl) rfl #[.int .u8 (bt a0 (ji9))] rfl (by (try simp only [List.map_toArray,List.map_cons,List.map_nil]);first|done|(simp only [hji9];rfl)|rfl|(simp only [Act.eval,Array.getD_eq_getD_getElem?,Option.getD_some, *];done)|(simp [Act.eval,Array.getD_eq_getD_getElem?, *];done)|(simp only [List.length_drop,List.length_take];rfl)) ?_;(with_reducible refine (impl_figureValue.calls (bt a0 (ji9)) t389 t390 _ A13.out).mono ?_);rintro e w21 ⟨rfl,hb⟩;refine ⟨_,rfl,?_⟩;have n0_:=Am (bT (by repeat (first|(with_reducible first|exact HB.out|apply bA|apply bN|apply bD)|exact HB.out)) hb);clear HB;have HB:=n0_;clear n0_;(try clear hb)))
       go_ret2
       exact ⟨by first|rfl|(simp <;> rfl)|(simp only [← hji4,← hji9];first|rfl|(simp <;> rfl))|(simp [*] <;> rfl),by repeat (first|(with_reducible first|exact HB.out|apply bA|apply bN|apply bD)|exact HB.out)⟩
     ·rw [if_neg c11] at H
      exact absurd H (by simp)
    ·rw [if_neg c10] at H
     exact absurd H (by simp)
   ·rw [if_neg c6] at H
    exact absurd H (by simp)
  ·rw [if_neg c5] at H
   exact absurd H (by simp)

def impl_standsForItself.f (a0:Int):Option (Bool):=if a0 ≥ 97 then (if a0 ≤ 122 then (some true) else (if a0 ≥ 48 then (if a0 ≤ 57 then (some true) else (if a0 = 46 then (some true) else (some (a0 == 45)))) else (if a0 = 46 then (some true) else (some (a0 == 45))))) else (if a0 ≥ 48 then (if a0 ≤ 57 then (some true) else (if a0 = 46 then (some true) else (some (a0 == 45)))) else (if a0 = 46 then (some true) else (some (a0 == 45))))
theorem impl_standsForItself.calls (a0:Int) (r:Bool) (w:World) (h:impl_standsForItself.f a0 = some r) :
  Calls Tryd.prog 87 #[.int .u8 a0] w fun e w'=>e = .returned (.bool r) ∧ Drawn0 w w':=by
 have H:(if a0 ≥ 97 then (if a0 ≤ 122 then (some true) else (if a0 ≥ 48 then (if a0 ≤ 57 then (some true) else (if a0 = 46 then (some true) else (some (a0 == 45)))) else (if a0 = 46 then (some true) else (some (a0 == 45))))) else (if a0 ≥ 48 then (if a0 ≤ 57 then (some true) else (if a0 = 46 then (some true) else (some (a0 == 45)))) else (if a0 = 46 then (some true) else (some (a0 == 45))))) = some r:=h
 clear h
 by_cases c2:a0 ≥ 97
 ·rw [if_pos c2] at H
  have c2b0:decide (97 ≤ a0) = true:=decide_eq_true c2
  clear c2
  by_cases c3:a0 ≤ 122
  ·rw [if_pos c3] at H
   have c3b0:decide (a0 ≤ 122) = true:=decide_eq_true c3
   clear c3
   obtain rfl:=Option.some.inj H
   go_enter Tryd.func87,Tryd.ntmps87
   go_wp2
   go_ret
   exact ⟨by first|rfl|(simp;done)|(simp only [i64_w,i32_w] <;> rfl)|(simp [*];done)|(simp [emp_bne,emp_beq];done),by repeat (first|exact Drawn0.refl _|apply Drawn0.step)⟩
  ·rw [if_neg c3] at H
   have c3b0:decide (a0 ≤ 122) = false:=decide_eq_false c3
   clear c3
   by_cases c4:a0 ≥ 48
   ·rw [if_pos c4] at H
    have c4b0:decide (48 ≤ a0) = true:=decide_eq_true c4
    clear c4
    by_cases c5:a0 ≤ 57
    ·rw [if_pos c5] at H
     have c5b0:decide (a0 ≤ 57) = true:=decide_eq_true c5
     clear c5
     obtain rfl:=Option.some.inj H
     go_enter Tryd.func87,Tryd.ntmps87
     go_wp2
     go_ret
     exact ⟨by first|rfl|(simp;done)|(simp only [i64_w,i32_w] <;> rfl)|(simp [*];done)|(simp [emp_bne,emp_beq];done),by repeat (first|exact Drawn0.refl _|apply Drawn0.step)⟩
    ·rw [if_neg c5] at H
     have c5b0:decide (a0 ≤ 57) = false:=decide_eq_false c5
     clear c5
     by_cases c6:a0 = 46
     ·rw [if_pos c6] at H
      have c6b0:(a0 == 46) = true:=beq_iff_eq.mpr c6
      have c6b1:(a0 != 46) = false:=bne_eq_false_iff_eq.mpr c6
      clear c6
      obtain rfl:=Option.some.inj H
      go_enter Tryd.func87,Tryd.ntmps87
      go_wp2
      go_ret
      exact ⟨by first|rfl|(simp;done)|(simp only [i64_w,i32_w] <;> rfl)|(simp [*];done)|(simp [emp_bne,emp_beq];done),by repeat (first|exact Drawn0.refl _|apply Drawn0.step)⟩
     ·rw [if_neg c6] at H
      have c6b0:(a0 == 46) = false:=beq_eq_false_iff_ne.mpr c6
      have c6b1:(a0 != 46) = true:=bne_iff_ne.mpr c6
      obtain rfl:=Option.some.inj H
      go_enter Tryd.func87,Tryd.ntmps87
      go_wp2
      go_ret
      exact ⟨by first|rfl|(simp;done)|(simp only [i64_w,i32_w] <;> rfl)|(simp [*];done)|(simp [emp_bne,emp_beq];done),by repeat (first|exact Drawn0.refl _|apply Drawn0.step)⟩
   ·rw [if_neg c4] at H
    have c4b0:decide (48 ≤ a0) = false:=decide_eq_false c4
    clear c4
    by_cases c7:a0 = 46
    ·rw [if_pos c7] at H
     have c7b0:(a0 == 46) = true:=beq_iff_eq.mpr c7
     have c7b1:(a0 != 46) = false:=bne_eq_false_iff_eq.mpr c7
     clear c7
     obtain rfl:=Option.some.inj H
     go_enter Tryd.func87,Tryd.ntmps87
     go_wp2
     go_ret
     exact ⟨by first|rfl|(simp;done)|(simp only [i64_w,i32_w] <;> rfl)|(simp [*];done)|(simp [emp_bne,emp_beq];done),by repeat (first|exact Drawn0.refl _|apply Drawn0.step)⟩
    ·rw [if_neg c7] at H
     have c7b0:(a0 == 46) = false:=beq_eq_false_iff_ne.mpr c7
     have c7b1:(a0 != 46) = true:=bne_iff_ne.mpr c7
     obtain rfl:=Option.some.inj H
     go_enter Tryd.func87,Tryd.ntmps87
     go_wp2
     go_ret
     exact ⟨by first|rfl|(simp;done)|(simp only [i64_w,i32_w] <;> rfl)|(simp [*];done)|(simp [emp_bne,emp_beq];done),by repeat (first|exact Drawn0.refl _|apply Drawn0.step)⟩
 ·rw [if_neg c2] at H
  have c2b0:decide (97 ≤ a0) = false:=decide_eq_false c2
  clear c2
  by_cases c8:a0 ≥ 48
  ·rw [if_pos c8] at H
   have c8b0:decide (48 ≤ a0) = true:=decide_eq_true c8
   clear c8
   by_cases c9:a0 ≤ 57
   ·rw [if_pos c9] at H
    have c9b0:decide (a0 ≤ 57) = true:=decide_eq_true c9
    clear c9
    obtain rfl:=Option.some.inj H
    go_enter Tryd.func87,Tryd.ntmps87
    go_wp2
    go_ret
    exact ⟨by first|rfl|(simp;done)|(simp only [i64_w,i32_w] <;> rfl)|(simp [*];done)|(simp [emp_bne,emp_beq];done),by repeat (first|exact Drawn0.refl _|apply Drawn0.step)⟩
   ·rw [if_neg c9] at H
    have c9b0:decide (a0 ≤ 57) = false:=decide_eq_false c9
    clear c9
    by_cases c10:a0 = 46
    ·rw [if_pos c10] at H
     have c10b0:(a0 == 46) = true:=beq_iff_eq.mpr c10
     have c10b1:(a0 != 46) = false:=bne_eq_false_iff_eq.mpr c10
     clear c10
     obtain rfl:=Option.some.inj H
     go_enter Tryd.func87,Tryd.ntmps87
     go_wp2
     go_ret
     exact ⟨by first|rfl|(simp;done)|(simp only [i64_w,i32_w] <;> rfl)|(simp [*];done)|(simp [emp_bne,emp_beq];done),by repeat (first|exact Drawn0.refl _|apply Drawn0.step)⟩
    ·rw [if_neg c10] at H
     have c10b0:(a0 == 46) = false:=beq_eq_false_iff_ne.mpr c10
     have c10b1:(a0 != 46) = true:=bne_iff_ne.mpr c10
     obtain rfl:=Option.some.inj H
     go_enter Tryd.func87,Tryd.ntmps87
     go_wp2
     go_ret
     exact ⟨by first|rfl|(simp;done)|(simp only [i64_w,i32_w] <;> rfl)|(simp [*];done)|(simp [emp_bne,emp_beq];done),by repeat (first|exact Drawn0.refl _|apply Drawn0.step)⟩
  ·rw [if_neg c8] at H
   have c8b0:decide (48 ≤ a0) = false:=decide_eq_false c8
   clear c8
   by_cases c11:a0 = 46
   ·rw [if_pos c11] at H
    have c11b0:(a0 == 46) = true:=beq_iff_eq.mpr c11
    have c11b1:(a0 != 46) = false:=bne_eq_false_iff_eq.mpr c11
    clear c11
    obtain rfl:=Option.some.inj H
    go_enter Tryd.func87,Tryd.ntmps87
    go_wp2
    go_ret
    exact ⟨by first|rfl|(simp;done)|(simp only [i64_w,i32_w] <;> rfl)|(simp [*];done)|(simp [emp_bne,emp_beq];done),by repeat (first|exact Drawn0.refl _|apply Drawn0.step)⟩
   ·rw [if_neg c11] at H
    have c11b0:(a0 == 46) = false:=beq_eq_false_iff_ne.mpr c11
    have c11b1:(a0 != 46) = true:=bne_iff_ne.mpr c11
    obtain rfl:=Option.some.inj H
    go_enter Tryd.func87,Tryd.ntmps87
    go_wp2
    go_ret
    exact ⟨by first|rfl|(simp;done)|(simp only [i64_w,i32_w] <;> rfl)|(simp [*];done)|(simp [emp_bne,emp_beq];done),by repeat (first|exact Drawn0.refl _|apply Drawn0.step)⟩

def impl_EscNorm.l0:Nat → ByteArray → List Int → Int → Option (ByteArray × Bool)
 | 0,_,_,_=>none
 | k + 1,x0,x4,x5=>if x5 < (x0.size:Int) then (if 0 ≤ x5 then (if (bt x0 x5) = 37 then ((impl_signByte.f x0 x5).bind fun bt391=>(if bt391.2 = true then ((impl_standsForItself.f bt391.1).bind fun t393=>(if t393 = true then (if x4.length < 140737488355328 then (impl_EscNorm.l0 k x0 (x4 ++ [bt391.1]) (wrap64 ((wrap64 (x5 + 2)) + 1))) else (none)) else (if 0 ≤ (bt391.1 / 16) then (if (bt391.1 / 16) < 16 then (if 0 ≤ (Go.bits .and .u8 bt391.1 15) then (if (Go.bits .and .u8 bt391.1 15) < 16 then ((some (([37,bt (⟨#[48,49,50,51,52,53,54,55,56,57,65,66,67,68,69,70]⟩:ByteArray) (bt391.1 / 16),bt (⟨#[48,49,50,51,52,53,54,55,56,57,65,66,67,68,69,70]⟩:ByteArray) (Go.bits .and .u8 bt391.1 15)]:List Int):List Int)).bind fun y397=>(if x4.length + y397.length < 140737488355328 then (impl_EscNorm.l0 k x0 (x4 ++ y397) (wrap64 ((wrap64 (x5 + 2)) + 1))) else (none))) else (none)) else (none)) else (none)) else (none)))) else (some ((⟨#[]⟩:ByteArray),false)))) else ((impl_standsForItself.f (bt x0 x5)).bind fun t403=>(if t403 = true then (if x4.length < 140737488355328 then (impl_EscNorm.l0 k x0 (x4 ++ [bt x0 x5]) (wrap64 (x5 + 1))) else (none)) else (if 0 ≤ ((bt x0 x5) / 16) then (if ((bt x0 x5) / 16) < 16 then (if 0 ≤ (Go.bits .and .u8 (bt x0 x5) 15) then (if (Go.bits .and .u8 (bt x0 x5) 15) < 16 then ((some (([37,bt (⟨#[48,49,50,51,52,53,54,55,56,57,65,66,67,68,69,70]⟩:ByteArray) ((bt x0 x5) / 16),bt (⟨#[48,49,50,51,52,53,54,55,56,57,65,66,67,68,69,70]⟩:ByteArray) (Go.bits .and .u8 (bt x0 x5) 15)]:List Int):List Int)).bind fun y407=>(if x4.length + y407.length < 140737488355328 then (impl_EscNorm.l0 k x0 (x4 ++ y407) (wrap64 (x5 + 1))) else (none))) else (none)) else (none)) else (none)) else (none))))) else (none)) else (some (strOfNums x4,true))
def impl_EscNorm.f (k:Nat) (a0:ByteArray):Option (ByteArray × Bool):=if (a0.size:Int) > 60 then (some ((⟨#[]⟩:ByteArray),false)) else (impl_EscNorm.l0 k a0 ([]:List Int) 0)
theorem impl_EscNorm.mono_l:∀ k,(∀ y0 y1 y2,LeO (impl_EscNorm.l0 k y0 y1 y2) (impl_EscNorm.l0 (k + 1) y0 y1 y2))
 | 0=>fun _ _ _ r h=>by simp [impl_EscNorm.l0] at h
 | k + 1=>by
  have ih0:=impl_EscNorm.mono_l k
  ·intro y0 y1 y2
   unfold impl_EscNorm.l0
   repeat' first
   | (with_reducible apply ih0)
   | (with_reducible exact LeO.refl _)
   | (with_reducible exact LeO.none _)
   | (with_reducible refine LeO.ite ?_ ?_)
   | (with_reducible refine LeO.bind ?_ (fun _=>?_))




theorem impl_EscNorm.mono:∀ a0 k,LeO (impl_EscNorm.f k a0) (impl_EscNorm.f (k + 1) a0):=by
 intro a0 k
 have ih0:=impl_EscNorm.mono_l k
 unfold impl_EscNorm.f
 repeat' first
   | (with_reducible apply ih0)
   | (with_reducible exact LeO.refl _)
   | (with_reducible exact LeO.none _)
   | (with_reducible refine LeO.ite ?_ ?_)
   | (with_reducible refine LeO.bind ?_ (fun _=>?_))




def impl_EscNorm.T16:Bool × List (List Nat × List Nat):=(true,[([],[]),([],[]),([1],[1]),([2],[2]),([],[]),([4],[4]),([5],[5]),([3,6],[3,6]),([0,7],[0,7]),([8,8,0,1,2,3,4,5,6,7,8],[0,8])])
def impl_EscNorm.B16:List Nat:=[0,0,2,6,0,16,48,126,255,511]
theorem impl_EscNorm.tab16:rtab .any (opsOf Tryd.f67 16) = impl_EscNorm.T16:=by kernel_rfl
theorem impl_EscNorm.bits16:waitsOk impl_EscNorm.T16.2 impl_EscNorm.B16 = true:=by kernel_rfl
theorem impl_EscNorm.calls (k:Nat) (a0:ByteArray) (r1:ByteArray) (r2:Bool) (w:World) (h:impl_EscNorm.f k a0 = some (r1,r2)) :
  Calls Tryd.prog 67 #[.string a0] w fun e w'=>e = .returned (.tuple #[.string r1, .bool r2]) ∧ Below w.heap.size w w':=by
 have HB:=Am (Below.refl w.heap.size w)
 have H:(if (a0.size:Int) > 60 then (some ((⟨#[]⟩:ByteArray),false)) else (impl_EscNorm.l0 k a0 ([]:List Int) 0)) = some (r1,r2):=h
 clear h
 by_cases c2:(a0.size:Int) > 60
 ·rw [if_pos c2] at H
  have c2b0:decide (60 < (a0.size:Int)) = true:=decide_eq_true c2
  have c2b1:decide (60 < a0.size) = true:=decide_eq_true (by omega)
  clear c2
  simp only [Option.some.injEq,Prod.mk.injEq] at H
  obtain ⟨rfl,rfl⟩:=H
  go_enter Tryd.func67,Tryd.ntmps67
  go_wp2
  go_ret2
  exact ⟨by first|rfl|(simp <;> rfl)|(simp [*] <;> rfl),by repeat (first|(with_reducible first|exact HB.out|apply bA|apply bN|apply bD)|exact HB.out)⟩
 ·rw [if_neg c2] at H
  have c2b0:decide (60 < (a0.size:Int)) = false:=decide_eq_false c2
  have c2b1:decide (60 < a0.size) = false:=decide_eq_false (by omega)
  clear c2
  have H':=Am H
  clear H
  go_enter Tryd.func67,Tryd.ntmps67
  go_wp2
  go_loopg [4,5] k (fun kq v4 v5 w'=>∃ (x4_1:List Int) (x5_1:Int),v5 = .int .i64 x5_1 ∧ Aside0 (impl_EscNorm.l0 kq a0 x4_1 x5_1 = some (r1,r2)) ∧ Aside0 (kq ≤ k) ∧ Aside0 (Kd.R (Kd.int .u8) 5 w' w.heap.size (fun _=>True) v4 x4_1) ∧ Aside0 (Below w.heap.size w w'))
  case atStart=>exact ⟨(([]:List Int)),(0),(by first|rfl|(simp;done)|(simp only [i64_w,i32_w] <;> rfl)|(simp [*];done)|(simp [emp_bne,emp_beq];done)),H',⟨Nat.le_refl _⟩,⟨by first|exact Kd.R_nil _ _ _ _ _|exact Kd.N_nil _ _ _ _ _|exact Kd.V_nil _ _ _ _ _|exact Kd.Q_nil _ _ _ _ _|exact Kd.S_nil _ _ _ _ _⟩,⟨by repeat (first|(with_reducible first|exact HB.out|apply bA|apply bN|apply bD)|exact HB.out)⟩⟩
  case round =>
   clear H'
   try clear c2
   try clear c2b0
   try clear c2b1
   try clear p2
   obtain ⟨x4_1,x5_1,rfl,HA,HK1,HO_4,HB⟩:=hrel
   cases gk with
   | zero=>exact absurd HA.out (by simp [impl_EscNorm.l0])
   | succ k1 =>
    have H:=HA.out
    clear HA
    simp only [impl_EscNorm.l0] at H
    by_cases c3:x5_1 < (a0.size:Int)
    ·rw [if_pos c3] at H
     have c3b0:decide (x5_1 < (a0.size:Int)) = true:=decide_eq_true c3
     clear c3
     by_cases c4:0 ≤ x5_1
     ·rw [if_pos c4] at H
      have c4b0:decide (0 ≤ x5_1) = true:=decide_eq_true c4
      clear c4
      by_cases c6:(bt a0 x5_1) = 37
      ·rw [if_pos c6] at H
       have c6b0:((bt a0 x5_1) == 37) = true:=beq_iff_eq.mpr c6
       have c6b1:((bt a0 x5_1) != 37) = false:=bne_eq_false_iff_eq.mpr c6
       clear c6
       replace H:=bI H
       obtain ⟨⟨t391,t392⟩,A70,H⟩:=H
       replace H:(if t392 = true then ((impl_standsForItself.f t391).bind fun t393=>(if t393 = true then (if x4_1.length < 140737488355328 then (impl_EscNorm.l0 k1 a0 (x4_1 ++ [t391]) (wrap64 ((wrap64 (x5_1 + 2)) + 1))) else (none)) else (if 0 ≤ (t391 / 16) then (if (t391 / 16) < 16 then (if 0 ≤ (Go.bits .and .u8 t391 15) then (if (Go.bits .and .u8 t391 15) < 16 then ((some (([37,bt (⟨#[48,49,50,51,52,53,54,55,56,57,65,66,67,68,69,70]⟩:ByteArray) (t391 / 16),bt (⟨#[48,49,50,51,52,53,54,55,56,57,65,66,67,68,69,70]⟩:ByteArray) (Go.bits .and .u8 t391 15)]:List Int):List Int)).bind fun y397=>(if x4_1.length + y397.length < 140737488355328 then (impl_EscNorm.l0 k1 a0 (x4_1 ++ y397) (wrap64 ((wrap64 (x5_1 + 2)) + 1))) else (none))) else (none)) else (none)) else (none)) else (none)))) else (some ((⟨#[]⟩:ByteArray),false))) = some (r1,r2):=H
       have A7:=Am A70
       clear A70
       by_cases c8:t392 = true
       ·subst c8
        have H1:((impl_standsForItself.f t391).bind fun t393=>(if t393 = true then (if x4_1.length < 140737488355328 then (impl_EscNorm.l0 k1 a0 (x4_1 ++ [t391]) (wrap64 ((wrap64 (x5_1 + 2)) + 1))) else (none)) else (if 0 ≤ (t391 / 16) then (if (t391 / 16) < 16 then (if 0 ≤ (Go.bits .and .u8 t391 15) then (if (Go.bits .and .u8 t391 15) < 16 then ((some (([37,bt (⟨#[48,49,50,51,52,53,54,55,56,57,65,66,67,68,69,70]⟩:ByteArray) (t391 / 16),bt (⟨#[48,49,50,51,52,53,54,55,56,57,65,66,67,68,69,70]⟩:ByteArray) (Go.bits .and .u8 t391 15)]:List Int):List Int)).bind fun y397=>(if x4_1.length + y397.length < 140737488355328 then (impl_EscNorm.l0 k1 a0 (x4_1 ++ y397) (wrap64 ((wrap64 (x5_1 + 2)) + 1))) else (none))) else (none)) else (none)) else (none)) else (none)))) = some (r1,r2):=by rw [if_pos rfl] at H;exact H
        clear H
        have H:=H1
        clear H1
        replace H:=bI H
        obtain ⟨t393,A90,H⟩:=H
        replace H:(if t393 = true then (if x4_1.length < 140737488355328 then (impl_EscNorm.l0 k1 a0 (x4_1 ++ [t391]) (wrap64 ((wrap64 (x5_1 + 2)) + 1))) else (none)) else (if 0 ≤ (t391 / 16) then (if (t391 / 16) < 16 then (if 0 ≤ (Go.bits .and .u8 t391 15) then (if (Go.bits .and .u8 t391 15) < 16 then ((some (([37,bt (⟨#[48,49,50,51,52,53,54,55,56,57,65,66,67,68,69,70]⟩:ByteArray) (t391 / 16),bt (⟨#[48,49,50,51,52,53,54,55,56,57,65,66,67,68,69,70]⟩:ByteArray) (Go.bits .and .u8 t391 15)]:List Int):List Int)).bind fun y397=>(if x4_1.length + y397.length < 140737488355328 then (impl_EscNorm.l0 k1 a0 (x4_1 ++ y397) (wrap64 ((wrap64 (x5_1 + 2)) + 1))) else (none))) else (none)) else (none)) else (none)) else (none))) = some (r1,r2):=H
        have A9:=Am A90
        clear A90
        by_cases c10:t393 = true
        ·subst c10
         have H1:(if x4_1.length < 140737488355328 then (impl_EscNorm.l0 k1 a0 (x4_1 ++ [t391]) (wrap64 ((wrap64 (x5_1 + 2)) + 1))) else (none)) = some (r1,r2):=by rw [if_pos rfl] at H;exact H
         clear H
         have H:=H1
         clear H1
         by_cases c11:x4_1.length < 140737488355328
         ·rw [if_pos c11] at H
          have LMc11:=Am c11
          clear c11
          obtain ⟨y394,hy394⟩:∃ y_:List Int,y_ = (x4_1 ++ [t391]):=⟨_,rfl⟩
          replace H:(impl_EscNorm.l0 k1 a0 y394 (wrap64 ((wrap64 (x5_1 + 2)) + 1))) = some (r1,r2):=by first|(rw [hy394];with_reducible exact H)|(have H2_:=(Option.bind_some _ _).symm.trans H;rw [hy394];with_reducible exact H2_)|(have H2_:=(Option.bind_some _ _).symm.trans H;with_reducible exact H2_)|with_reducible exact H|(rw [hy394];exact H)|exact H
          have Ny394:=Am hy394
          clear hy394
          have H':=Am H
          clear H
          have p5:0 ≤ (x5_1:Int):=oD (by assumption)
          have q5:x5_1 < (a0.size:Int):=oD (by assumption)
          have hx5:=bt_at a0 x5_1
          replace p5:=eq_true p5
          replace q5:=eq_true q5
          go_wp2_with (first|((with_reducible refine gate_callee (f:=86) rfl ?_);refine goesL_ (some 26) rfl rfl Tryd.func86 (by kernel_rfl) rfl #[.string a0, .int .i64 x5_1] rfl (aE2 rfl rfl) ?_;(with_reducible refine (impl_signByte.calls a0 x5_1 t391 true _ A7.out).mono ?_);rintro e w12 ⟨rfl,hb⟩;refine ⟨_,rfl,?_⟩;have n0_:=bH HO_4 hb;have n1_:=Am (bT (by repeat (first|(with_reducible first|exact HB.out|apply bA|apply bN|apply bD)|exact HB.out)) hb);clear HO_4 HB;have HO_4:=n0_;have HB:=n1_;clear n0_ n1_;(try clear hb))|((with_reducible refine gate_callee (f:=87) rfl ?_);refine goesL_ (some 35) rfl rfl Tryd.func87 (by kernel_rfl) rfl #[.int .u8 t391] rfl (aE1 rfl) ?_;(with_reducible refine (impl_standsForItself.calls t391 true _ A9.out).mono ?_);rintro e w' ⟨rfl,⟨nd,rfl⟩⟩;refine ⟨_,rfl,?_⟩)|((with_reducible refine gate_builtin (b:=.append) (xs:=#[.tmp 36, .tmp 38]) rfl ?_);at_builtin;refine Kd.R_append (Kd.int .u8) (w0:=w) w.heap.size rfl (.tmp 36) (.tmp 38) 22 5 (.int .u8 0) 1 rfl Tryd.underlying22 info5 rfl (by decide) (by omega) u4 x4_1 t391 [.int .u8 t391] (fun _=>True) (fun _=>False) rfl rfl ?aP (fun _ hk=>hk.elim) ?aF ?aO ?aB ?aS ?aL ?_;(case aP=>exact rfl);(case aB=>exact (by repeat (first|(with_reducible first|exact HB.out|apply bA|apply bN|apply bD)|exact HB.out)));(case aF=>exact (fun _ _=>trivial));(case aO=>exact (bR HO_4.out));(case aS=>exact (bU (by repeat (first|(with_reducible first|exact HB.out|apply bA|apply bN|apply bD)|exact HB.out))));(case aL=>have:=LMc11.out;omega);intro v395 w13 ho hb hg hat;rw [← Ny394.out] at ho;have n0_:=Am (hb);have n1_:=Am (ho);clear HB HO_4;have HB:=n0_;have HO396:=n1_;clear n0_ n1_ ho hb hg hat))
          go_roundg k1
          case measure=>have:=HK1.out;omega
          case rel=>exact ⟨(y394),(wrap64 ((wrap64 (x5_1 + 2)) + 1)),(by first|rfl|(simp;done)|(simp only [i64_w,i32_w] <;> rfl)|(simp [*];done)|(simp [emp_bne,emp_beq];done)),H',⟨by have:=HK1.out;omega⟩,⟨by (with_reducible repeat (first|apply rA|apply rN|apply rD));exact HO396.out⟩,⟨by repeat (first|(with_reducible first|exact HB.out|apply bA|apply bN|apply bD)|exact HB.out)⟩⟩
         ·rw [if_neg c11] at H
          exact absurd H (by simp)
        ·replace c10:=Bool.eq_false_iff.mpr c10
         subst c10
         have H1:(if 0 ≤ (t391 / 16) then (if (t391 / 16) < 16 then (if 0 ≤ (Go.bits .and .u8 t391 15) then (if (Go.bits .and .u8 t391 15) < 16 then ((some (([37,bt (⟨#[48,49,50,51,52,53,54,55,56,57,65,66,67,68,69,70]⟩:ByteArray) (t391 / 16),bt (⟨#[48,49,50,51,52,53,54,55,56,57,65,66,67,68,69,70]⟩:ByteArray) (Go.bits .and .u8 t391 15)]:List Int):List Int)).bind fun y397=>(if x4_1.length + y397.length < 140737488355328 then (impl_EscNorm.l0 k1 a0 (x4_1 ++ y397) (wrap64 ((wrap64 (x5_1 + 2)) + 1))) else (none))) else (none)) else (none)) else (none)) else (none)) = some (r1,r2):=by rw [if_neg (show ¬ (false = true) by decide)] at H;exact H
         clear H
         have H:=H1
         clear H1
         obtain ⟨ji14,hji14⟩:∃ j_:Int,(t391 / 16) = j_:=⟨_,rfl⟩
         replace H:(if 0 ≤ (ji14) then (if (ji14) < 16 then (if 0 ≤ (Go.bits .and .u8 t391 15) then (if (Go.bits .and .u8 t391 15) < 16 then ((some (([37,bt (⟨#[48,49,50,51,52,53,54,55,56,57,65,66,67,68,69,70]⟩:ByteArray) (ji14),bt (⟨#[48,49,50,51,52,53,54,55,56,57,65,66,67,68,69,70]⟩:ByteArray) (Go.bits .and .u8 t391 15)]:List Int):List Int)).bind fun y397=>(if x4_1.length + y397.length < 140737488355328 then (impl_EscNorm.l0 k1 a0 (x4_1 ++ y397) (wrap64 ((wrap64 (x5_1 + 2)) + 1))) else (none))) else (none)) else (none)) else (none)) else (none)) = some (r1,r2):=by first|(rw [hji14] at H;exact H)|(simp only [hji14] at H ⊢;exact H)
         (try rw [hji14] at A7)
         (try rw [hji14] at A9)
         by_cases c15:0 ≤ (ji14)
         ·rw [if_pos c15] at H
          have c15b0:decide (0 ≤ (ji14)) = true:=decide_eq_true c15
          clear c15
          by_cases c16:(ji14) < 16
          ·rw [if_pos c16] at H
           have c16b0:decide ((ji14) < 16) = true:=decide_eq_true c16
           clear c16
           by_cases c18:0 ≤ (Go.bits .and .u8 t391 15)
           ·rw [if_pos c18] at H
            have c18b0:decide (0 ≤ (Go.bits .and .u8 t391 15)) = true:=decide_eq_true c18
            clear c18
            by_cases c19:(Go.bits .and .u8 t391 15) < 16
            ·rw [if_pos c19] at H
             have c19b0:decide ((Go.bits .and .u8 t391 15) < 16) = true:=decide_eq_true c19
             clear c19
             obtain ⟨y397,hy397⟩:∃ y_:List Int,y_ = (([37,bt (⟨#[48,49,50,51,52,53,54,55,56,57,65,66,67,68,69,70]⟩:ByteArray) (ji14),bt (⟨#[48,49,50,51,52,53,54,55,56,57,65,66,67,68,69,70]⟩:ByteArray) (Go.bits .and .u8 t391 15)]:List Int)):=⟨_,rfl⟩
             replace H:(if x4_1.length + y397.length < 140737488355328 then (impl_EscNorm.l0 k1 a0 (x4_1 ++ y397) (wrap64 ((wrap64 (x5_1 + 2)) + 1))) else (none)) = some (r1,r2):=by first|(rw [hy397];with_reducible exact H)|(have H2_:=(Option.bind_some _ _).symm.trans H;rw [hy397];with_reducible exact H2_)|(have H2_:=(Option.bind_some _ _).symm.trans H;with_reducible exact H2_)|with_reducible exact H|(rw [hy397];exact H)|exact H
             have Ny397:=Am hy397
             clear hy397
             by_cases c21:x4_1.length + y397.length < 140737488355328
             ·rw [if_pos c21] at H
              have LMc21:=Am c21
              clear c21
              obtain ⟨y400,hy400⟩:∃ y_:List Int,y_ = (x4_1 ++ y397):=⟨_,rfl⟩
              replace H:(impl_EscNorm.l0 k1 a0 y400 (wrap64 ((wrap64 (x5_1 + 2)) + 1))) = some (r1,r2):=by first|(rw [hy400];with_reducible exact H)|(have H2_:=(Option.bind_some _ _).symm.trans H;rw [hy400];with_reducible exact H2_)|(have H2_:=(Option.bind_some _ _).symm.trans H;with_reducible exact H2_)|with_reducible exact H|(rw [hy400];exact H)|exact H
              have Ny400:=Am hy400
              clear hy400
              have H':=Am H
              clear H
              have p5:0 ≤ (x5_1:Int):=oD (by assumption)
              have q5:x5_1 < (a0.size:Int):=oD (by assumption)
              have hx5:=bt_at a0 x5_1
              replace p5:=eq_true p5
              replace q5:=eq_true q5
              try go_wp2_with (first|((with_reducible refine gate_callee (f:=86) rfl ?_);refine goesL_ (some 26) rfl rfl Tryd.func86 (by kernel_rfl) rfl #[.string a0, .int .i64 x5_1] rfl (aE2 rfl rfl) ?_;(with_reducible refine (impl_signByte.calls a0 x5_1 t391 true _ A7.out).mono ?_);rintro e w22 ⟨rfl,hb⟩;refine ⟨_,rfl,?_⟩;have n0_:=bH HO_4 hb;have n1_:=Am (bT (by repeat (first|(with_reducible first|exact HB.out|apply bA|apply bN|apply bD)|exact HB.out)) hb);clear HO_4 HB;have HO_4:=n0_;have HB:=n1_;clear n0_ n1_;(try clear hb))|((with_reducible refine gate_callee (f:=87) rfl ?_);refine goesL_ (some 35) rfl rfl Tryd.func87 (by kernel_rfl) rfl #[.int .u8 t391] rfl (aE1 rfl) ?_;(with_reducible refine (impl_standsForItself.calls t391 false _ A9.out).mono ?_);rintro e w' ⟨rfl,⟨nd,rfl⟩⟩;refine ⟨_,rfl,?_⟩))
              (try (rw [drewN_self w22];generalize hq_:World.drewN w22 _ = w22;have n0_:Aside0 (Kd.R (Kd.int .u8) 5 w22 w.heap.size (fun _=>True) u4 x4_1):=⟨by rw [← hq_];exact (bR HO_4.out)⟩;have n1_:Aside0 (Below w.heap.size w w22):=⟨by rw [← hq_];exact (by repeat (first|(with_reducible first|exact HB.out|apply bA|apply bN|apply bD)|exact HB.out))⟩;clear HO_4 HB hq_;have HO_4:=n0_;have HB:=n1_;clear n0_ n1_))
              have n0_:=Am (Kd.R_drew HO_4.out)
              have n1_:=Am (below_drew1 HB.out)
              clear HO_4
              clear HB
              have HO_4:=n0_
              have HB:=n1_
              clear n0_ n1_
              have p17:0 ≤ ((ji14):Int):=oD (by assumption)
              have q17:(ji14) < (16:Int):=oD (by assumption)
              have hx17:=bt_at (⟨#[48,49,50,51,52,53,54,55,56,57,65,66,67,68,69,70]⟩:ByteArray) (ji14)
              replace p17:=eq_true p17
              replace q17:=eq_true q17
              have p20:0 ≤ ((Go.bits .and .u8 t391 15):Int):=oD (by assumption)
              have q20:(Go.bits .and .u8 t391 15) < (16:Int):=oD (by assumption)
              have hx20:=bt_at (⟨#[48,49,50,51,52,53,54,55,56,57,65,66,67,68,69,70]⟩:ByteArray) (Go.bits .and .u8 t391 15)
              replace p20:=eq_true p20
              replace q20:=eq_true q20
              refine start_ (n:=10) (S:=fun w'=>True) (ds:=[]) #[false,false,false,false,false,false,false,false,false,false] (by kernel_rfl) rfl rfl trivial (fun hHeld=>?_);refine with_tabW impl_EscNorm.tab16 impl_EscNorm.bits16 (fun HT_ HW_=>?_)
              generalize w22.drew = w23 at HO_4 HB hHeld ⊢
              refine pure_ (i:=0) (N:=some 40) (v:=?_) (a':=?_) #[true,false,false,false,false,false,false,false,false,false] rfl rfl (any_of HT_.out (by kernel_rfl)) (fun _ _ _ h=>h) (Or.inl ⟨by rfl,?_⟩) ?_ ?_
              rotate_left
              ·intro w'
               go_simp
               with_reducible rfl
              rotate_left
              ·simp only [Act.put,lT,lZ,lS,i64_w,i32_w]
               rfl
              refine pure_ (i:=1) (N:=some 41) (v:=?_) (a':=?_) #[true,true,false,false,false,false,false,false,false,false] rfl rfl (any_of HT_.out (by kernel_rfl)) (fun _ _ _ h=>h) (Or.inl ⟨by rfl,?_⟩) ?_ ?_
              rotate_left
              ·intro w'
               go_simp
               with_reducible rfl
              rotate_left
              ·simp only [Act.put,lT,lZ,lS,i64_w,i32_w]
               rfl
              refine pure_ (i:=2) (N:=some 42) (v:=?_) (a':=?_) #[true,true,true,false,false,false,false,false,false,false] rfl rfl (any_of HT_.out (by kernel_rfl)) (fun _ _ _ h=>h) (Or.inl ⟨by rfl,?_⟩) ?_ ?_
              rotate_left
              ·intro w'
               go_simp
               with_reducible rfl
              rotate_left
              ·simp only [Act.put,lT,lZ,lS,i64_w,i32_w]
               rfl
              refine pure_ (i:=4) (N:=some 44) (v:=?_) (a':=?_) #[true,true,true,false,true,false,false,false,false,false] rfl rfl (any_of HT_.out (by kernel_rfl)) (fun _ _ _ h=>h) (Or.inl ⟨by rfl,?_⟩) ?_ ?_
              rotate_left
              ·intro w'
               go_simp
               with_reducible rfl
              rotate_left
              ·simp only [Act.put,lT,lZ,lS,i64_w,i32_w]
               rfl
              refine pure_ (i:=5) (N:=some 45) (v:=?_) (a':=?_) #[true,true,true,false,true,true,false,false,false,false] rfl rfl (any_of HT_.out (by kernel_rfl)) (fun _ _ _ h=>h) (Or.inl ⟨by rfl,?_⟩) ?_ ?_
              rotate_left
              ·intro w'
               go_simp
               with_reducible rfl
              rotate_left
              ·simp only [Act.put,lT,lZ,lS,i64_w,i32_w]
               rfl
              refine take_ (i:=3) (N:=some 43) (v:=?_) (a':=?_) #[true,true,true,true,true,true,false,false,false,false] rfl rfl (take_ofW HT_.out HW_.out (by kernel_rfl)) (fun _ _ _ h=>h) (Or.inl ⟨by rfl,?_⟩) hHeld ?_ ?_
              rotate_left
              ·intro w' _
               go_simp
               with_reducible rfl
              rotate_left
              ·simp only [Act.put,lT,lZ,lS,i64_w,i32_w]
               rfl
              refine take_ (i:=6) (N:=some 46) (v:=?_) (a':=?_) #[true,true,true,true,true,true,true,false,false,false] rfl rfl (take_ofW HT_.out HW_.out (by kernel_rfl)) (fun _ _ _ h=>h) (Or.inl ⟨by rfl,?_⟩) hHeld ?_ ?_
              rotate_left
              ·intro w' _
               go_simp
               with_reducible rfl
              rotate_left
              ·simp only [Act.put,lT,lZ,lS,i64_w,i32_w]
               rfl
              refine one_ (i:=7) (N:=some 47) #[true,true,true,true,true,true,true,true,false,false] rfl rfl (one_of HT_.out (by kernel_rfl)) (by decide) (fun K hK=>?_)
              refine Kd.R_lit_step (Kd.int .u8) _ 5 ?hg (N:=47) ?hd (xs:=([37,bt (⟨#[48,49,50,51,52,53,54,55,56,57,65,66,67,68,69,70]⟩:ByteArray) (ji14),bt (⟨#[48,49,50,51,52,53,54,55,56,57,65,66,67,68,69,70]⟩:ByteArray) (Go.bits .and .u8 t391 15)]:List Int)) (inner:=[.int .u8 37, .int .u8 (bt (⟨#[48,49,50,51,52,53,54,55,56,57,65,66,67,68,69,70]⟩:ByteArray) (ji14)), .int .u8 (bt (⟨#[48,49,50,51,52,53,54,55,56,57,65,66,67,68,69,70]⟩:ByteArray) (Go.bits .and .u8 t391 15))]) (ok:=fun _=>True) (okp:=fun _=>True) ?hr ?hp (fun _ hk=>hk) trivial (Below.refl _ _) (Nat.le_refl _) (by simp) ?_;(case hd=>rfl);(case hg=>rfl);(case hr=>(go_simp <;> rfl));(case hp=>exact (Reps.one (show Kd.M (Kd.int .u8) _ _ _ 37 [.int .u8 37] from rfl) (Reps.one (show Kd.M (Kd.int .u8) _ _ _ (bt (⟨#[48,49,50,51,52,53,54,55,56,57,65,66,67,68,69,70]⟩:ByteArray) (ji14)) [.int .u8 (bt (⟨#[48,49,50,51,52,53,54,55,56,57,65,66,67,68,69,70]⟩:ByteArray) (ji14))] from rfl) (Reps.one (show Kd.M (Kd.int .u8) _ _ _ (bt (⟨#[48,49,50,51,52,53,54,55,56,57,65,66,67,68,69,70]⟩:ByteArray) (Go.bits .and .u8 t391 15)) [.int .u8 (bt (⟨#[48,49,50,51,52,53,54,55,56,57,65,66,67,68,69,70]⟩:ByteArray) (Go.bits .and .u8 t391 15))] from rfl) (Reps.none _ _)))))
              intro v398 w24 ho25 hb hg_ hnew_
              clear hg_ hnew_
              (first|rw [← Ny397.out] at ho25|(simp only [Int.reduceToNat] at ho25;rw [← Ny397.out] at ho25))
              have n0_:=Am (Kd.R_elder' (bR HO_4.out) (Kd.R_base ho25) hb)
              have n1_:=Am (Kd.R_lower (Kd.R_new' ho25 (Kd.R_lt (bR HO_4.out))) (bU (by repeat (first|(with_reducible first|exact HB.out|apply bA|apply bN|apply bD)|exact HB.out))))
              have n2_:=Am (bT (by repeat (first|(with_reducible first|exact HB.out|apply bA|apply bN|apply bD)|exact HB.out)) hb)
              clear HO_4
              clear HB
              have HO_4:=n0_
              have HO399:=n1_
              have HB:=n2_
              clear n0_ n1_ n2_
              clear hb ho25
              obtain ⟨Ao27,co27,eo27⟩:=Kd.R_slice HO399.out
              (first|subst eo27|(injection eo27 with f1_ f2_ f3_;have f4_:=f1_.symm;have f5_:=f3_.symm;clear f1_ f2_ f3_;subst f4_;subst f5_))
              refine hK.out _ _ trivial (fun hHeld=>?_)
              clear hK K
              refine norm_ (a':=?_) ?_ ?_
              rotate_left
              ·show Act.put _ (some 47) _ = _
               simp only [Act.put,lT,lZ,lS,i64_w,i32_w]
               rfl
              refine one_ (i:=8) (N:=some 48) #[true,true,true,true,true,true,true,true,true,false] rfl rfl (one_of HT_.out (by kernel_rfl)) (by decide) (fun K hK=>?_)
              refine Kd.R_append_rows_step (Kd.int .u8) (w0:=w) w.heap.size (by rfl) (.tmp 40) (.tmp 47) 22 5 (.int .u8 0) 1 rfl Tryd.underlying22 info5 rfl (by decide) (by omega) u4 x4_1 y397 _ _ _ (fun k_=>some k_ ≠ (.slice Ao27 y397.length co27:Value).ownBlock) (fun _=>False) rfl rfl ?aO ?aR (fun _ _ h=>h) (fun _ h=>h.elim) ?aF ?aB ?aS ?aL ?_
              (case aR=>repeat (first|exact (Kd.R_reads' HO399.out).2.2|(with_reducible refine bC ?_)))
              (case aB=>exact (by repeat (first|(with_reducible first|exact HB.out|apply bA|apply bN|apply bD)|exact HB.out)))
              (case aF=>exact (fun k_ hk=>Kd.fresh' (Kd.R_lt (bR HO399.out)) k_ hk))
              (case aO=>exact (by (with_reducible repeat (first|apply rA|apply rN|apply rD));exact Kd.R_mono HO_4.out (fun _ hk=>hk.2)))
              (case aS=>exact (bU (by repeat (first|(with_reducible first|exact HB.out|apply bA|apply bN|apply bD)|exact HB.out))))
              (case aL=>have:=LMc21.out;omega)
              intro v401 w26 ho hb hg hat
              rw [← Ny400.out] at ho
              have n0_:=Am (Kd.R_after (ok:=(fun _=>True)) (bR HO399.out) hg hat)
              have n1_:=Am (hb)
              have n2_:=Am (ho)
              clear HO399
              clear HB
              clear HO_4
              have HO399:=n0_
              have HB:=n1_
              have HO402:=n2_
              clear n0_ n1_ n2_
              clear ho hb hg hat
              refine hK.out _ _ trivial (fun hHeld=>?_)
              clear hK K
              refine norm_ (a':=?_) ?_ ?_
              rotate_left
              ·show Act.put _ (some 48) _ = _
               simp only [Act.put,lT,lZ,lS,i64_w,i32_w]
               rfl
              refine pure_ (i:=9) (N:=some 4) (v:=?_) (a':=?_) #[true,true,true,true,true,true,true,true,true,true] rfl rfl (any_of HT_.out (by kernel_rfl)) (fun _ _ _ h=>h) (Or.inl ⟨by rfl,?_⟩) ?_ ?_
              rotate_left
              ·intro w'
               go_simp
               with_reducible rfl
              rotate_left
              ·simp only [Act.put,lT,lZ,lS,i64_w,i32_w]
               rfl
              refine done_ (done_of HT_.out (by kernel_rfl)) ?_
              try go_wp2
              go_roundg k1
              case measure=>have:=HK1.out;omega
              case rel=>exact ⟨(y400),(wrap64 ((wrap64 (x5_1 + 2)) + 1)),(by first|rfl|(simp;done)|(simp only [i64_w,i32_w] <;> rfl)|(simp [*];done)|(simp [emp_bne,emp_beq];done)),H',⟨by have:=HK1.out;omega⟩,⟨by (with_reducible repeat (first|apply rA|apply rN|apply rD));exact Kd.R_mono HO402.out (fun _ hk=>trivial)⟩,⟨by repeat (first|(with_reducible first|exact HB.out|apply bA|apply bN|apply bD)|exact HB.out)⟩⟩
             ·rw [if_neg c21] at H
              exact absurd H (by simp)
            ·rw [if_neg c19] at H
             exact absurd H (by simp)
           ·rw [if_neg c18] at H
            exact absurd H (by simp)
          ·rw [if_neg c16] at H
           exact absurd H (by simp)
         ·rw [if_neg c15] at H
          exact absurd H (by simp)
       ·replace c8:=Bool.eq_false_iff.mpr c8
        subst c8
        have H1:(some ((⟨#[]⟩:ByteArray),false)) = some (r1,r2):=by rw [if_neg (show ¬ (false = true) by decide)] at H;exact H
        clear H
        have H:=H1
        clear H1
        simp only [Option.some.injEq,Prod.mk.injEq] at H
        obtain ⟨rfl,rfl⟩:=H
        have p5:0 ≤ (x5_1:Int):=oD (by assumption)
        have q5:x5_1 < (a0.size:Int):=oD (by assumption)
        have hx5:=bt_at a0 x5_1
        replace p5:=eq_true p5
        replace q5:=eq_true q5
        go_wp2_with (first|((with_reducible refine gate_callee (f:=86) rfl ?_);refine goesL_ (some 26) rfl rfl Tryd.func86 (by kernel_rfl) rfl #[.string a0, .int .i64 x5_1] rfl (aE2 rfl rfl) ?_;(with_reducible refine (impl_signByte.calls a0 x5_1 t391 false _ A7.out).mono ?_);rintro e w28 ⟨rfl,hb⟩;refine ⟨_,rfl,?_⟩;have n0_:=bH HO_4 hb;have n1_:=Am (bT (by repeat (first|(with_reducible first|exact HB.out|apply bA|apply bN|apply bD)|exact HB.out)) hb);clear HO_4 HB;have HO_4:=n0_;have HB:=n1_;clear n0_ n1_;(try clear hb)))
        go_ret2
        exact ⟨by first|rfl|(simp <;> rfl)|(simp [*] <;> rfl),by repeat (first|(with_reducible first|exact HB.out|apply bA|apply bN|apply bD)|exact HB.out)⟩
      ·rw [if_neg c6] at H
       have c6b0:((bt a0 x5_1) == 37) = false:=beq_eq_false_iff_ne.mpr c6
       have c6b1:((bt a0 x5_1) != 37) = true:=bne_iff_ne.mpr c6
       replace H:=bI H
       obtain ⟨t403,A290,H⟩:=H
       replace H:(if t403 = true then (if x4_1.length < 140737488355328 then (impl_EscNorm.l0 k1 a0 (x4_1 ++ [bt a0 x5_1]) (wrap64 (x5_1 + 1))) else (none)) else (if 0 ≤ ((bt a0 x5_1) / 16) then (if ((bt a0 x5_1) / 16) < 16 then (if 0 ≤ (Go.bits .and .u8 (bt a0 x5_1) 15) then (if (Go.bits .and .u8 (bt a0 x5_1) 15) < 16 then ((some (([37,bt (⟨#[48,49,50,51,52,53,54,55,56,57,65,66,67,68,69,70]⟩:ByteArray) ((bt a0 x5_1) / 16),bt (⟨#[48,49,50,51,52,53,54,55,56,57,65,66,67,68,69,70]⟩:ByteArray) (Go.bits .and .u8 (bt a0 x5_1) 15)]:List Int):List Int)).bind fun y407=>(if x4_1.length + y407.length < 140737488355328 then (impl_EscNorm.l0 k1 a0 (x4_1 ++ y407) (wrap64 (x5_1 + 1))) else (none))) else (none)) else (none)) else (none)) else (none))) = some (r1,r2):=H
       have A29:=Am A290
       clear A290
       by_cases c30:t403 = true
       ·subst c30
        have H1:(if x4_1.length < 140737488355328 then (impl_EscNorm.l0 k1 a0 (x4_1 ++ [bt a0 x5_1]) (wrap64 (x5_1 + 1))) else (none)) = some (r1,r2):=by rw [if_pos rfl] at H;exact H
        clear H
        have H:=H1
        clear H1
        by_cases c31:x4_1.length < 140737488355328
        ·rw [if_pos c31] at H
         have LMc31:=Am c31
         clear c31
         obtain ⟨y404,hy404⟩:∃ y_:List Int,y_ = (x4_1 ++ [bt a0 x5_1]):=⟨_,rfl⟩
         replace H:(impl_EscNorm.l0 k1 a0 y404 (wrap64 (x5_1 + 1))) = some (r1,r2):=by first|(rw [hy404];with_reducible exact H)|(have H2_:=(Option.bind_some _ _).symm.trans H;rw [hy404];with_reducible exact H2_)|(have H2_:=(Option.bind_some _ _).symm.trans H;with_reducible exact H2_)|with_reducible exact H|(rw [hy404];exact H)|exact H
         have Ny404:=Am hy404
         clear hy404
         have H':=Am H
         clear H
         have p5:0 ≤ (x5_1:Int):=oD (by assumption)
         have q5:x5_1 < (a0.size:Int):=oD (by assumption)
         have hx5:=bt_at a0 x5_1
         replace p5:=eq_true p5
         replace q5:=eq_true q5
         go_wp2_with (first|((with_reducible refine gate_callee (f:=87) rfl ?_);refine goesL_ (some 35) rfl rfl Tryd.func87 (by kernel_rfl) rfl #[.int .u8 (bt a0 x5_1)] rfl (aE1 rfl) ?_;(with_reducible refine (impl_standsForItself.calls (bt a0 x5_1) true _ A29.out).mono ?_);rintro e w' ⟨rfl,⟨nd,rfl⟩⟩;refine ⟨_,rfl,?_⟩)|((with_reducible refine gate_builtin (b:=.append) (xs:=#[.tmp 36, .tmp 38]) rfl ?_);at_builtin;refine Kd.R_append (Kd.int .u8) (w0:=w) w.heap.size rfl (.tmp 36) (.tmp 38) 22 5 (.int .u8 0) 1 rfl Tryd.underlying22 info5 rfl (by decide) (by omega) u4 x4_1 (bt a0 x5_1) [.int .u8 (bt a0 x5_1)] (fun _=>True) (fun _=>False) rfl rfl ?aP (fun _ hk=>hk.elim) ?aF ?aO ?aB ?aS ?aL ?_;(case aP=>exact rfl);(case aB=>exact (by repeat (first|(with_reducible first|exact HB.out|apply bA|apply bN|apply bD)|exact HB.out)));(case aF=>exact (fun _ _=>trivial));(case aO=>exact (bR HO_4.out));(case aS=>exact (bU (by repeat (first|(with_reducible first|exact HB.out|apply bA|apply bN|apply bD)|exact HB.out))));(case aL=>have:=LMc31.out;omega);intro v405 w32 ho hb hg hat;rw [← Ny404.out] at ho;have n0_:=Am (hb);have n1_:=Am (ho);clear HB HO_4;have HB:=n0_;have HO406:=n1_;clear n0_ n1_ ho hb hg hat))
         go_roundg k1
         case measure=>have:=HK1.out;omega
         case rel=>exact ⟨(y404),(wrap64 (x5_1 + 1)),(by first|rfl|(simp;done)|(simp only [i64_w,i32_w] <;> rfl)|(simp [*];done)|(simp [emp_bne,emp_beq];done)),H',⟨by have:=HK1.out;omega⟩,⟨by (with_reducible repeat (first|apply rA|apply rN|apply rD));exact HO406.out⟩,⟨by repeat (first|(with_reducible first|exact HB.out|apply bA|apply bN|apply bD)|exact HB.out)⟩⟩
        ·rw [if_neg c31] at H
         exact absurd H (by simp)
       ·replace c30:=Bool.eq_false_iff.mpr c30
        subst c30
        have H1:(if 0 ≤ ((bt a0 x5_1) / 16) then (if ((bt a0 x5_1) / 16) < 16 then (if 0 ≤ (Go.bits .and .u8 (bt a0 x5_1) 15) then (if (Go.bits .and .u8 (bt a0 x5_1) 15) < 16 then ((some (([37,bt (⟨#[48,49,50,51,52,53,54,55,56,57,65,66,67,68,69,70]⟩:ByteArray) ((bt a0 x5_1) / 16),bt (⟨#[48,49,50,51,52,53,54,55,56,57,65,66,67,68,69,70]⟩:ByteArray) (Go.bits .and .u8 (bt a0 x5_1) 15)]:List Int):List Int)).bind fun y407=>(if x4_1.length + y407.length < 140737488355328 then (impl_EscNorm.l0 k1 a0 (x4_1 ++ y407) (wrap64 (x5_1 + 1))) else (none))) else (none)) else (none)) else (none)) else (none)) = some (r1,r2):=by rw [if_neg (show ¬ (false = true) by decide)] at H;exact H
        clear H
        have H:=H1
        clear H1
        obtain ⟨ji33,hji33⟩:∃ j_:Int,((bt a0 x5_1) / 16) = j_:=⟨_,rfl⟩
        replace H:(if 0 ≤ (ji33) then (if (ji33) < 16 then (if 0 ≤ (Go.bits .and .u8 (bt a0 x5_1) 15) then (if (Go.bits .and .u8 (bt a0 x5_1) 15) < 16 then ((some (([37,bt (⟨#[48,49,50,51,52,53,54,55,56,57,65,66,67,68,69,70]⟩:ByteArray) (ji33),bt (⟨#[48,49,50,51,52,53,54,55,56,57,65,66,67,68,69,70]⟩:ByteArray) (Go.bits .and .u8 (bt a0 x5_1) 15)]:List Int):List Int)).bind fun y407=>(if x4_1.length + y407.length < 140737488355328 then (impl_EscNorm.l0 k1 a0 (x4_1 ++ y407) (wrap64 (x5_1 + 1))) else (none))) else (none)) else (none)) else (none)) else (none)) = some (r1,r2):=by first|(rw [hji33] at H;exact H)|(simp only [hji33] at H ⊢;exact H)
        (try rw [hji33] at A29)
        by_cases c34:0 ≤ (ji33)
        ·rw [if_pos c34] at H
         have c34b0:decide (0 ≤ (ji33)) = true:=decide_eq_true c34
         clear c34
         by_cases c35:(ji33) < 16
         ·rw [if_pos c35] at H
          have c35b0:decide ((ji33) < 16) = true:=decide_eq_true c35
          clear c35
          by_cases c37:0 ≤ (Go.bits .and .u8 (bt a0 x5_1) 15)
          ·rw [if_pos c37] at H
           have c37b0:decide (0 ≤ (Go.bits .and .u8 (bt a0 x5_1) 15)) = true:=decide_eq_true c37
           clear c37
           by_cases c38:(Go.bits .and .u8 (bt a0 x5_1) 15) < 16
           ·rw [if_pos c38] at H
            have c38b0:decide ((Go.bits .and .u8 (bt a0 x5_1) 15) < 16) = true:=decide_eq_true c38
            clear c38
            obtain ⟨y407,hy407⟩:∃ y_:List Int,y_ = (([37,bt (⟨#[48,49,50,51,52,53,54,55,56,57,65,66,67,68,69,70]⟩:ByteArray) (ji33),bt (⟨#[48,49,50,51,52,53,54,55,56,57,65,66,67,68,69,70]⟩:ByteArray) (Go.bits .and .u8 (bt a0 x5_1) 15)]:List Int)):=⟨_,rfl⟩
            replace H:(if x4_1.length + y407.length < 140737488355328 then (impl_EscNorm.l0 k1 a0 (x4_1 ++ y407) (wrap64 (x5_1 + 1))) else (none)) = some (r1,r2):=by first|(rw [hy407];with_reducible exact H)|(have H2_:=(Option.bind_some _ _).symm.trans H;rw [hy407];with_reducible exact H2_)|(have H2_:=(Option.bind_some _ _).symm.trans H;with_reducible exact H2_)|with_reducible exact H|(rw [hy407];exact H)|exact H
            have Ny407:=Am hy407
            clear hy407
            by_cases c40:x4_1.length + y407.length < 140737488355328
            ·rw [if_pos c40] at H
             have LMc40:=Am c40
             clear c40
             obtain ⟨y410,hy410⟩:∃ y_:List Int,y_ = (x4_1 ++ y407):=⟨_,rfl⟩
             replace H:(impl_EscNorm.l0 k1 a0 y410 (wrap64 (x5_1 + 1))) = some (r1,r2):=by first|(rw [hy410];with_reducible exact H)|(have H2_:=(Option.bind_some _ _).symm.trans H;rw [hy410];with_reducible exact H2_)|(have H2_:=(Option.bind_some _ _).symm.trans H;with_reducible exact H2_)|with_reducible exact H|(rw [hy410];exact H)|exact H
             have Ny410:=Am hy410
             clear hy410
             have H':=Am H
             clear H
             have p5:0 ≤ (x5_1:Int):=oD (by assumption)
             have q5:x5_1 < (a0.size:Int):=oD (by assumption)
             have hx5:=bt_at a0 x5_1
             replace p5:=eq_true p5
             replace q5:=eq_true q5
             try go_wp2_with (first|((with_reducible refine gate_callee (f:=87) rfl ?_);refine goesL_ (some 35) rfl rfl Tryd.func87 (by kernel_rfl) rfl #[.int .u8 (bt a0 x5_1)] rfl (aE1 rfl) ?_;(with_reducible refine (impl_standsForItself.calls (bt a0 x5_1) false _ A29.out).mono ?_);rintro e w' ⟨rfl,⟨nd,rfl⟩⟩;refine ⟨_,rfl,?_⟩))
             (try (rw [drewN_self wr];generalize hq_:World.drewN wr _ = wr;have n0_:Aside0 (Kd.R (Kd.int .u8) 5 wr w.heap.size (fun _=>True) u4 x4_1):=⟨by rw [← hq_];exact (bR HO_4.out)⟩;have n1_:Aside0 (Below w.heap.size w wr):=⟨by rw [← hq_];exact (by repeat (first|(with_reducible first|exact HB.out|apply bA|apply bN|apply bD)|exact HB.out))⟩;clear HO_4 HB hq_;have HO_4:=n0_;have HB:=n1_;clear n0_ n1_))
             have n0_:=Am (Kd.R_drew HO_4.out)
             have n1_:=Am (below_drew1 HB.out)
             clear HO_4
             clear HB
             have HO_4:=n0_
             have HB:=n1_
             clear n0_ n1_
             have p36:0 ≤ ((ji33):Int):=oD (by assumption)
             have q36:(ji33) < (16:Int):=oD (by assumption)
             have hx36:=bt_at (⟨#[48,49,50,51,52,53,54,55,56,57,65,66,67,68,69,70]⟩:ByteArray) (ji33)
             replace p36:=eq_true p36
             replace q36:=eq_true q36
             have p39:0 ≤ ((Go.bits .and .u8 (bt a0 x5_1) 15):Int):=oD (by assumption)
             have q39:(Go.bits .and .u8 (bt a0 x5_1) 15) < (16:Int):=oD (by assumption)
             have hx39:=bt_at (⟨#[48,49,50,51,52,53,54,55,56,57,65,66,67,68,69,70]⟩:ByteArray) (Go.bits .and .u8 (bt a0 x5_1) 15)
             replace p39:=eq_true p39
             replace q39:=eq_true q39
             refine start_ (n:=10) (S:=fun w'=>True) (ds:=[]) #[false,false,false,false,false,false,false,false,false,false] (by kernel_rfl) rfl rfl trivial (fun hHeld=>?_);refine with_tabW impl_EscNorm.tab16 impl_EscNorm.bits16 (fun HT_ HW_=>?_)
             generalize wr.drew = w41 at HO_4 HB hHeld ⊢
             refine pure_ (i:=0) (N:=some 40) (v:=?_) (a':=?_) #[true,false,false,false,false,false,false,false,false,false] rfl rfl (any_of HT_.out (by kernel_rfl)) (fun _ _ _ h=>h) (Or.inl ⟨by rfl,?_⟩) ?_ ?_
             rotate_left
             ·intro w'
              go_simp
              with_reducible rfl
             rotate_left
             ·simp only [Act.put,lT,lZ,lS,i64_w,i32_w]
              rfl
             refine pure_ (i:=1) (N:=some 41) (v:=?_) (a':=?_) #[true,true,false,false,false,false,false,false,false,false] rfl rfl (any_of HT_.out (by kernel_rfl)) (fun _ _ _ h=>h) (Or.inl ⟨by rfl,?_⟩) ?_ ?_
             rotate_left
             ·intro w'
              go_simp
              with_reducible rfl
             rotate_left
             ·simp only [Act.put,lT,lZ,lS,i64_w,i32_w]
              rfl
             refine pure_ (i:=2) (N:=some 42) (v:=?_) (a':=?_) #[true,true,true,false,false,false,false,false,false,false] rfl rfl (any_of HT_.out (by kernel_rfl)) (fun _ _ _ h=>h) (Or.inl ⟨by rfl,?_⟩) ?_ ?_
             rotate_left
             ·intro w'
              go_simp
              with_reducible rfl
             rotate_left
             ·simp only [Act.put,lT,lZ,lS,i64_w,i32_w]
              rfl
             refine pure_ (i:=4) (N:=some 44) (v:=?_) (a':=?_) #[true,true,true,false,true,false,false,false,false,false] rfl rfl (any_of HT_.out (by kernel_rfl)) (fun _ _ _ h=>h) (Or.inl ⟨by rfl,?_⟩) ?_ ?_
             rotate_left
             ·intro w'
              go_simp
              with_reducible rfl
             rotate_left
             ·simp only [Act.put,lT,lZ,lS,i64_w,i32_w]
              rfl
             refine pure_ (i:=5) (N:=some 45) (v:=?_) (a':=?_) #[true,true,true,false,true,true,false,false,false,false] rfl rfl (any_of HT_.out (by kernel_rfl)) (fun _ _ _ h=>h) (Or.inl ⟨by rfl,?_⟩) ?_ ?_
             rotate_left
             ·intro w'
              go_simp
              with_reducible rfl
             rotate_left
             ·simp only [Act.put,lT,lZ,lS,i64_w,i32_w]
              rfl
             refine take_ (i:=3) (N:=some 43) (v:=?_) (a':=?_) #[true,true,true,true,true,true,false,false,false,false] rfl rfl (take_ofW HT_.out HW_.out (by kernel_rfl)) (fun _ _ _ h=>h) (Or.inl ⟨by rfl,?_⟩) hHeld ?_ ?_
             rotate_left
             ·intro w' _
              go_simp
              with_reducible rfl
             rotate_left
             ·simp only [Act.put,lT,lZ,lS,i64_w,i32_w]
              rfl
             refine take_ (i:=6) (N:=some 46) (v:=?_) (a':=?_) #[true,true,true,true,true,true,true,false,false,false] rfl rfl (take_ofW HT_.out HW_.out (by kernel_rfl)) (fun _ _ _ h=>h) (Or.inl ⟨by rfl,?_⟩) hHeld ?_ ?_
             rotate_left
             ·intro w' _
              go_simp
              with_reducible rfl
             rotate_left
             ·simp only [Act.put,lT,lZ,lS,i64_w,i32_w]
              rfl
             refine one_ (i:=7) (N:=some 47) #[true,true,true,true,true,true,true,true,false,false] rfl rfl (one_of HT_.out (by kernel_rfl)) (by decide) (fun K hK=>?_)
             refine Kd.R_lit_step (Kd.int .u8) _ 5 ?hg (N:=47) ?hd (xs:=([37,bt (⟨#[48,49,50,51,52,53,54,55,56,57,65,66,67,68,69,70]⟩:ByteArray) (ji33),bt (⟨#[48,49,50,51,52,53,54,55,56,57,65,66,67,68,69,70]⟩:ByteArray) (Go.bits .and .u8 (bt a0 x5_1) 15)]:List Int)) (inner:=[.int .u8 37, .int .u8 (bt (⟨#[48,49,50,51,52,53,54,55,56,57,65,66,67,68,69,70]⟩:ByteArray) (ji33)), .int .u8 (bt (⟨#[48,49,50,51,52,53,54,55,56,57,65,66,67,68,69,70]⟩:ByteArray) (Go.bits .and .u8 (bt a0 x5_1) 15))]) (ok:=fun _=>True) (okp:=fun _=>True) ?hr ?hp (fun _ hk=>hk) trivial (Below.refl _ _) (Nat.le_refl _) (by simp) ?_;(case hd=>rfl);(case hg=>rfl);(case hr=>(go_simp <;> rfl));(case hp=>exact (Reps.one (show Kd.M (Kd.int .u8) _ _ _ 37 [.int .u8 37] from rfl) (Reps.one (show Kd.M (Kd.int .u8) _ _ _ (bt (⟨#[48,49,50,51,52,53,54,55,56,57,65,66,67,68,69,70]⟩:ByteArray) (ji33)) [.int .u8 (bt (⟨#[48,49,50,51,52,53,54,55,56,57,65,66,67,68,69,70]⟩:ByteArray) (ji33))] from rfl) (Reps.one (show Kd.M (Kd.int .u8) _ _ _ (bt (⟨#[48,49,50,51,52,53,54,55,56,57,65,66,67,68,69,70]⟩:ByteArray) (Go.bits .and .u8 (bt a0 x5_1) 15)) [.int .u8 (bt (⟨#[48,49,50,51,52,53,54,55,56,57,65,66,67,68,69,70]⟩:ByteArray) (Go.bits .and .u8 (bt a0 x5_1) 15))] from rfl) (Reps.none _ _)))))
             intro v408 w42 ho43 hb hg_ hnew_
             clear hg_ hnew_
             (first|rw [← Ny407.out] at ho43|(simp only [Int.reduceToNat] at ho43;rw [← Ny407.out] at ho43))
             have n0_:=Am (Kd.R_elder' (bR HO_4.out) (Kd.R_base ho43) hb)
             have n1_:=Am (Kd.R_lower (Kd.R_new' ho43 (Kd.R_lt (bR HO_4.out))) (bU (by repeat (first|(with_reducible first|exact HB.out|apply bA|apply bN|apply bD)|exact HB.out))))
             have n2_:=Am (bT (by repeat (first|(with_reducible first|exact HB.out|apply bA|apply bN|apply bD)|exact HB.out)) hb)
             clear HO_4
             clear HB
             have HO_4:=n0_
             have HO409:=n1_
             have HB:=n2_
             clear n0_ n1_ n2_
             clear hb ho43
             obtain ⟨Ao45,co45,eo45⟩:=Kd.R_slice HO409.out
             (first|subst eo45|(injection eo45 with f1_ f2_ f3_;have f4_:=f1_.symm;have f5_:=f3_.symm;clear f1_ f2_ f3_;subst f4_;subst f5_))
             refine hK.out _ _ trivial (fun hHeld=>?_)
             clear hK K
             refine norm_ (a':=?_) ?_ ?_
             rotate_left
             ·show Act.put _ (some 47) _ = _
              simp only [Act.put,lT,lZ,lS,i64_w,i32_w]
              rfl
             refine one_ (i:=8) (N:=some 48) #[true,true,true,true,true,true,true,true,true,false] rfl rfl (one_of HT_.out (by kernel_rfl)) (by decide) (fun K hK=>?_)
             refine Kd.R_append_rows_step (Kd.int .u8) (w0:=w) w.heap.size (by rfl) (.tmp 40) (.tmp 47) 22 5 (.int .u8 0) 1 rfl Tryd.underlying22 info5 rfl (by decide) (by omega) u4 x4_1 y407 _ _ _ (fun k_=>some k_ ≠ (.slice Ao45 y407.length co45:Value).ownBlock) (fun _=>False) rfl rfl ?aO ?aR (fun _ _ h=>h) (fun _ h=>h.elim) ?aF ?aB ?aS ?aL ?_
             (case aR=>repeat (first|exact (Kd.R_reads' HO409.out).2.2|(with_reducible refine bC ?_)))
             (case aB=>exact (by repeat (first|(with_reducible first|exact HB.out|apply bA|apply bN|apply bD)|exact HB.out)))
             (case aF=>exact (fun k_ hk=>Kd.fresh' (Kd.R_lt (bR HO409.out)) k_ hk))
             (case aO=>exact (by (with_reducible repeat (first|apply rA|apply rN|apply rD));exact Kd.R_mono HO_4.out (fun _ hk=>hk.2)))
             (case aS=>exact (bU (by repeat (first|(with_reducible first|exact HB.out|apply bA|apply bN|apply bD)|exact HB.out))))
             (case aL=>have:=LMc40.out;omega)
             intro v411 w44 ho hb hg hat
             rw [← Ny410.out] at ho
             have n0_:=Am (Kd.R_after (ok:=(fun _=>True)) (bR HO409.out) hg hat)
             have n1_:=Am (hb)
             have n2_:=Am (ho)
             clear HO409
             clear HB
             clear HO_4
             have HO409:=n0_
             have HB:=n1_
             have HO412:=n2_
             clear n0_ n1_ n2_
             clear ho hb hg hat
             refine hK.out _ _ trivial (fun hHeld=>?_)
             clear hK K
             refine norm_ (a':=?_) ?_ ?_
             rotate_left
             ·show Act.put _ (some 48) _ = _
              simp only [Act.put,lT,lZ,lS,i64_w,i32_w]
              rfl
             refine pure_ (i:=9) (N:=some 4) (v:=?_) (a':=?_) #[true,true,true,true,true,true,true,true,true,true] rfl rfl (any_of HT_.out (by kernel_rfl)) (fun _ _ _ h=>h) (Or.inl ⟨by rfl,?_⟩) ?_ ?_
             rotate_left
             ·intro w'
              go_simp
              with_reducible rfl
             rotate_left
             ·simp only [Act.put,lT,lZ,lS,i64_w,i32_w]
              rfl
             refine done_ (done_of HT_.out (by kernel_rfl)) ?_
             try go_wp2
             go_roundg k1
             case measure=>have:=HK1.out;omega
             case rel=>exact ⟨(y410),(wrap64 (x5_1 + 1)),(by first|rfl|(simp;done)|(simp only [i64_w,i32_w] <;> rfl)|(simp [*];done)|(simp [emp_bne,emp_beq];done)),H',⟨by have:=HK1.out;omega⟩,⟨by (with_reducible repeat (first|apply rA|apply rN|apply rD));exact Kd.R_mono HO412.out (fun _ hk=>trivial)⟩,⟨by repeat (first|(with_reducible first|exact HB.out|apply bA|apply bN|apply bD)|exact HB.out)⟩⟩
            ·rw [if_neg c40] at H
             exact absurd H (by simp)
           ·rw [if_neg c38] at H
            exact absurd H (by simp)
          ·rw [if_neg c37] at H
           exact absurd H (by simp)
         ·rw [if_neg c35] at H
          exact absurd H (by simp)
        ·rw [if_neg c34] at H
         exact absurd H (by simp)
     ·rw [if_neg c4] at H
      exact absurd H (by simp)
    ·rw [if_neg c3] at H
     have c3b0:decide (x5_1 < (a0.size:Int)) = false:=decide_eq_false c3
     clear c3
     simp only [Option.some.injEq,Prod.mk.injEq] at H
     obtain ⟨rfl,rfl⟩:=H
     have hcv46:=own_string (P:=Tryd.prog) Tryd.underlying22 Tryd.underlying5 Tryd.underlying9 (Kd.own_of_R HO_4.out)
     go_wp2
     go_ret2
     exact ⟨by first|rfl|(simp <;> rfl)|(simp [*] <;> rfl),by repeat (first|(with_reducible first|exact HB.out|apply bA|apply bN|apply bD)|exact HB.out)⟩

def impl_isNormal.f (k:Nat) (a0:ByteArray):Option (Bool):=(impl_EscNorm.f k a0).bind fun bt413=>(if bt413.2 = true then (some (bt413.1.toList == a0.toList)) else (some false))
theorem impl_isNormal.mono:∀ a0 k,LeO (impl_isNormal.f k a0) (impl_isNormal.f (k + 1) a0):=by
 intro a0 k
 unfold impl_isNormal.f
 repeat' first
   | (with_reducible apply impl_EscNorm.mono)
   | (with_reducible exact LeO.refl _)
   | (with_reducible exact LeO.none _)
   | (with_reducible refine LeO.ite ?_ ?_)
   | (with_reducible refine LeO.bind ?_ (fun _=>?_))




theorem impl_isNormal.calls (k:Nat) (a0:ByteArray) (r:Bool) (w:World) (h:impl_isNormal.f k a0 = some r) :
  Calls Tryd.prog 56 #[.string a0] w fun e w'=>e = .returned (.bool r) ∧ Below w.heap.size w w':=by
 have HB:=Am (Below.refl w.heap.size w)
 have H:((impl_EscNorm.f k a0).bind fun bt413=>(if bt413.2 = true then (some (bt413.1.toList == a0.toList)) else (some false))) = some r:=h
 clear h
 replace H:=bI H
 obtain ⟨⟨t413,t414⟩,A20,H⟩:=H
 replace H:(if t414 = true then (some (t413.toList == a0.toList)) else (some false)) = some r:=H
 have A2:=Am A20
 clear A20
 by_cases c3:t414 = true
 ·subst c3
  have H1:(some (t413.toList == a0.toList)) = some r:=by rw [if_pos rfl] at H;exact H
  clear H
  have H:=H1
  clear H1
  obtain rfl:=Option.some.inj H
  go_enter Tryd.func56,Tryd.ntmps56
  go_wp2_with (first|((with_reducible refine gate_callee (f:=67) rfl ?_);refine goesL_ (some 7) rfl rfl Tryd.func67 (by kernel_rfl) rfl #[.string a0] rfl (aE1 rfl) ?_;(with_reducible refine (impl_EscNorm.calls k a0 t413 true _ A2.out).mono ?_);rintro e w4 ⟨rfl,hb⟩;refine ⟨_,rfl,?_⟩;have n0_:=Am (bT (by repeat (first|(with_reducible first|exact HB.out|apply bA|apply bN|apply bD)|exact HB.out)) hb);clear HB;have HB:=n0_;clear n0_;(try clear hb)))
  go_ret
  exact ⟨by first|rfl|(simp <;> rfl)|(simp [*] <;> rfl),by repeat (first|(with_reducible first|exact HB.out|apply bA|apply bN|apply bD)|exact HB.out)⟩
 ·replace c3:=Bool.eq_false_iff.mpr c3
  subst c3
  have H1:(some false) = some r:=by rw [if_neg (show ¬ (false = true) by decide)] at H;exact H
  clear H
  have H:=H1
  clear H1
  obtain rfl:=Option.some.inj H
  go_enter Tryd.func56,Tryd.ntmps56
  go_wp2_with (first|((with_reducible refine gate_callee (f:=67) rfl ?_);refine goesL_ (some 7) rfl rfl Tryd.func67 (by kernel_rfl) rfl #[.string a0] rfl (aE1 rfl) ?_;(with_reducible refine (impl_EscNorm.calls k a0 t413 false _ A2.out).mono ?_);rintro e w5 ⟨rfl,hb⟩;refine ⟨_,rfl,?_⟩;have n0_:=Am (bT (by repeat (first|(with_reducible first|exact HB.out|apply bA|apply bN|apply bD)|exact HB.out)) hb);clear HB;have HB:=n0_;clear n0_;(try clear hb)))
  go_ret
  exact ⟨by first|rfl|(simp <;> rfl)|(simp [*] <;> rfl),by repeat (first|(with_reducible first|exact HB.out|apply bA|apply bN|apply bD)|exact HB.out)⟩

mutual
def impl_AddrOk.j0:Nat → Bool → ByteArray → List ByteArray → Bool → ByteArray → Option (Bool)
 | 0,_,_,_,_,_=>none
 | k + 1,x14,x416000,x416001,x416002,x416003=>if x14 = true then (some false) else (impl_AddrOk.l0 k x416001 (x416001.length:Int) 0 x416000 x416001 x416002 x416003)
def impl_AddrOk.l0:Nat → List ByteArray → Int → Int → ByteArray → List ByteArray → Bool → ByteArray → Option (Bool)
 | 0,_,_,_,_,_,_,_=>none
 | k + 1,x16,x17,x18,x416000,x416001,x416002,x416003=>if x18 < x17 then (if 0 ≤ x18 then (if x18 < (x16.length:Int) then (if (rdOf ByteArray.empty x16 x18).toList = ([]:List UInt8) then (some false) else (if (rdOf ByteArray.empty x16 x18).toList = ([46]:List UInt8) then (some false) else (if (rdOf ByteArray.empty x16 x18).toList = ([46,46]:List UInt8) then (some false) else ((impl_isNormal.f k (rdOf ByteArray.empty x16 x18)).bind fun t418=>(if t418 = true then (impl_AddrOk.l0 k x16 x17 (wrap64 (x18 + 1)) x416000 x416001 x416002 x416003) else (some false)))))) else (none)) else (none)) else ((impl_isNormal.f k x416003).bind fun t419=>(if t419 = true then (if x416002 = true then ((impl_writeAddr.f x416000 x416001 x416002 x416003).bind fun t420=>(some (decide ((t420.size:Int) ≤ 60)))) else (if x416003.toList = ([]:List UInt8) then ((impl_writeAddr.f x416000 x416001 x416002 x416003).bind fun t421=>(some (decide ((t421.size:Int) ≤ 60)))) else (some false))) else (some false)))
end
def impl_AddrOk.f (k:Nat) (a0_0:ByteArray) (l0_1:List ByteArray) (a0_2:Bool) (a0_3:ByteArray):Option (Bool):=(impl_isHouse.f k a0_0).bind fun t416=>(if t416 = true then (impl_AddrOk.j0 k (decide ((l0_1.length:Int) > 5)) a0_0 l0_1 a0_2 a0_3) else (impl_AddrOk.j0 k true a0_0 l0_1 a0_2 a0_3))
theorem impl_AddrOk.mono_l:∀ k,(∀ y0 y1 y2 y3 y4,LeO (impl_AddrOk.j0 k y0 y1 y2 y3 y4) (impl_AddrOk.j0 (k + 1) y0 y1 y2 y3 y4)) ∧ (∀ y0 y1 y2 y3 y4 y5 y6,LeO (impl_AddrOk.l0 k y0 y1 y2 y3 y4 y5 y6) (impl_AddrOk.l0 (k + 1) y0 y1 y2 y3 y4 y5 y6))
 | 0=>⟨fun _ _ _ _ _ r h=>by simp [impl_AddrOk.j0] at h,fun _ _ _ _ _ _ _ r h=>by simp [impl_AddrOk.l0] at h⟩
 | k + 1=>by
  obtain ⟨ih0,ih1⟩:=impl_AddrOk.mono_l k
  refine ⟨?_,?_⟩
  ·intro y0 y1 y2 y3 y4
   unfold impl_AddrOk.j0
   repeat' first
   | (with_reducible apply ih0)
   | (with_reducible apply ih1)
   | (with_reducible apply impl_isHouse.mono)
   | (with_reducible apply impl_isNormal.mono)
   | (with_reducible exact LeO.refl _)
   | (with_reducible exact LeO.none _)
   | (with_reducible refine LeO.ite ?_ ?_)
   | (with_reducible refine LeO.bind ?_ (fun _=>?_))







  ·intro y0 y1 y2 y3 y4 y5 y6
   unfold impl_AddrOk.l0
   repeat' first
   | (with_reducible apply ih0)
   | (with_reducible apply ih1)
   | (with_reducible apply impl_isHouse.mono)
   | (with_reducible apply impl_isNormal.mono)
   | (with_reducible exact LeO.refl _)
   | (with_reducible exact LeO.none _)
   | (with_reducible refine LeO.ite ?_ ?_)
   | (with_reducible refine LeO.bind ?_ (fun _=>?_))







theorem impl_AddrOk.mono:∀ a0 a1 a2 a3 k,LeO (impl_AddrOk.f k a0 a1 a2 a3) (impl_AddrOk.f (k + 1) a0 a1 a2 a3):=by
 intro a0 a1 a2 a3 k
 obtain ⟨ih0,ih1⟩:=impl_AddrOk.mono_l k
 unfold impl_AddrOk.f
 repeat' first
   | (with_reducible apply ih0)
   | (with_reducible apply ih1)
   | (with_reducible apply impl_isHouse.mono)
   | (with_reducible apply impl_isNormal.mono)
   | (with_reducible exact LeO.refl _)
   | (with_reducible exact LeO.none _)
   | (with_reducible refine LeO.ite ?_ ?_)
   | (with_reducible refine LeO.bind ?_ (fun _=>?_))







theorem impl_AddrOk.calls (k:Nat) (a0_0:ByteArray) (A0_1:Option Addr) (c0_1:Nat) (l0_1:List ByteArray) (a0_2:Bool) (a0_3:ByteArray) (r:Bool) (w:World) (hr0_1:Kd.C Kd.string w A0_1 l0_1.length l0_1) (hc0_1:l0_1.length ≤ c0_1) (h:impl_AddrOk.f k a0_0 l0_1 a0_2 a0_3 = some r) :
  Calls Tryd.prog 28 #[.agg #[.string a0_0, .slice A0_1 l0_1.length c0_1, .bool a0_2, .string a0_3]] w fun e w'=>e = .returned (.bool r) ∧ Below w.heap.size w w':=by
 have hu25:=Tryd.underlying25
 have HR0_1:=Am hr0_1
 have HC0_1:=Am hc0_1
 clear hr0_1 hc0_1
 have HB:=Am (Below.refl w.heap.size w)
 have H:((impl_isHouse.f k a0_0).bind fun t416=>(if t416 = true then (impl_AddrOk.j0 k (decide ((l0_1.length:Int) > 5)) a0_0 l0_1 a0_2 a0_3) else (impl_AddrOk.j0 k true a0_0 l0_1 a0_2 a0_3))) = some r:=h
 clear h
 have HC2:=Am H
 clear H
 go_enter Tryd.func28,Tryd.ntmps28
 go_upto_region 1 with (first|((with_reducible refine gate_dst (N:=1) rfl ?_);(try (refine gate_guard (by rfl) ?_;dsimp only));refine box_event ?hg (N:=1) ?hd (cs:=#[.string a0_0, .slice A0_1 l0_1.length c0_1, .bool a0_2, .string a0_3]) (t:=25) ?hr ?_;(case hd=>rfl);(case hg=>rfl);(case hr=>(go_simp <;> rfl));intro gb415 hg w3 hbox hb;have n0_:=Am (bT (by repeat (first|(with_reducible first|exact HB.out|apply bA|apply bN|apply bD)|exact HB.out)) hb);have n1_:=Am (hbox);have n2_:=Am ((by rw [hg];exact (bU (by repeat (first|(with_reducible first|exact HB.out|apply bA|apply bN|apply bD)|exact HB.out))):w.heap.size ≤ gb415));have n3_:=n2_;clear HB;have HB:=n0_;have BK415:=n1_;have GW415:=n2_;have GE415:=n3_;clear n0_ n1_ n2_ n3_ hb hbox hg))
 (try simp only [Act.put,lT,lZ,lS])
 go_cut [14] (fun v14 wc=>∃ (kq:Nat) (x14_1:Bool),v14 = .bool x14_1 ∧ Aside0 (impl_AddrOk.j0 kq x14_1 a0_0 l0_1 a0_2 a0_3 = some r) ∧ Aside0 (kq ≤ k) ∧ Aside0 (wc.heap[gb415]? = some (.cells #[.string a0_0,(.slice A0_1 l0_1.length c0_1), .bool a0_2, .string a0_3] 25 (0,0))) ∧ Aside0 (Below w.heap.size w wc))
 case first =>
  have H:=HC2.out
  clear HC2
  replace H:=bI H
  obtain ⟨t416,A40,H⟩:=H
  replace H:(if t416 = true then (impl_AddrOk.j0 k (decide ((l0_1.length:Int) > 5)) a0_0 l0_1 a0_2 a0_3) else (impl_AddrOk.j0 k true a0_0 l0_1 a0_2 a0_3)) = some r:=H
  have A4:=Am A40
  clear A40
  by_cases c5:t416 = true
  ·subst c5
   have H1:(impl_AddrOk.j0 k (decide ((l0_1.length:Int) > 5)) a0_0 l0_1 a0_2 a0_3) = some r:=by rw [if_pos rfl] at H;exact H
   clear H
   have H:=H1
   clear H1
   have H':=Am H
   clear H
   obtain ⟨hcz6_0,hcz6_1,hcz6_2,hcz6_3,hfz6_0,hfz6_1,hfz6_2,hfz6_3⟩:=bX BK415.out







   go_wp2_with (first|((with_reducible refine gate_callee (f:=55) rfl ?_);refine goesL_ (some 7) rfl rfl Tryd.func55 (by kernel_rfl) rfl #[.string a0_0] rfl (aE1 rfl) ?_;(with_reducible refine (impl_isHouse.calls k a0_0 true _ A4.out).mono ?_);rintro e w' ⟨rfl,⟨nd,rfl⟩⟩;refine ⟨_,rfl,?_⟩))
   go_meet
   case rel=>exact ⟨_,(decide ((l0_1.length:Int) > 5)),(by first|rfl|(simp;done)|(simp only [i64_w,i32_w] <;> rfl)|(simp [*];done)|(simp [emp_bne,emp_beq];done)),H',⟨by first|omega|exact Nat.le_refl _⟩,⟨by refine bB ?_;exact BK415.out⟩,⟨by repeat (first|(with_reducible first|exact HB.out|apply bA|apply bN|apply bD|refine bS ?_ GE415.out)|exact HB.out)⟩⟩
  ·replace c5:=Bool.eq_false_iff.mpr c5
   subst c5
   have H1:(impl_AddrOk.j0 k true a0_0 l0_1 a0_2 a0_3) = some r:=by rw [if_neg (show ¬ (false = true) by decide)] at H;exact H
   clear H
   have H:=H1
   clear H1
   have H':=Am H
   clear H
   obtain ⟨hcz7_0,hcz7_1,hcz7_2,hcz7_3,hfz7_0,hfz7_1,hfz7_2,hfz7_3⟩:=bX BK415.out







   go_wp2_with (first|((with_reducible refine gate_callee (f:=55) rfl ?_);refine goesL_ (some 7) rfl rfl Tryd.func55 (by kernel_rfl) rfl #[.string a0_0] rfl (aE1 rfl) ?_;(with_reducible refine (impl_isHouse.calls k a0_0 false _ A4.out).mono ?_);rintro e w' ⟨rfl,⟨nd,rfl⟩⟩;refine ⟨_,rfl,?_⟩))
   go_meet
   case rel=>exact ⟨_,(true),(by first|rfl|(simp;done)|(simp only [i64_w,i32_w] <;> rfl)|(simp [*];done)|(simp [emp_bne,emp_beq];done)),H',⟨by first|omega|exact Nat.le_refl _⟩,⟨by refine bB ?_;exact BK415.out⟩,⟨by repeat (first|(with_reducible first|exact HB.out|apply bA|apply bN|apply bD|refine bS ?_ GE415.out)|exact HB.out)⟩⟩
 case rest =>
  clear HC2
  try clear c2
  try clear p2
  try clear c5
  try clear hcz6_0
  try clear hcz6_1
  try clear hcz6_2
  try clear hcz6_3
  try clear hcz7_0
  try clear hcz7_1
  try clear hcz7_2
  try clear hcz7_3
  try clear hfz6_0
  try clear hfz6_1
  try clear hfz6_2
  try clear hfz6_3
  try clear hfz7_0
  try clear hfz7_1
  try clear hfz7_2
  try clear hfz7_3
  obtain ⟨kq,x14_1,rfl,HA,HJ1,BK415,HB⟩:=hcut
  cases kq with
  | zero=>exact absurd HA.out (by simp [impl_AddrOk.j0])
  | succ kj1 =>
   have H:=HA.out
   clear HA
   simp only [impl_AddrOk.j0] at H
   by_cases c8:x14_1 = true
   ·subst c8
    have H1:(some false) = some r:=by rw [if_pos rfl] at H;exact H
    clear H
    have H:=H1
    clear H1
    obtain rfl:=Option.some.inj H
    go_wp2
    go_ret
    exact ⟨by first|rfl|(simp <;> rfl)|(simp [*] <;> rfl),by repeat (first|(with_reducible first|exact HB.out|apply bA|apply bN|apply bD|refine bS ?_ GE415.out)|exact HB.out)⟩
   ·replace c8:=Bool.eq_false_iff.mpr c8
    subst c8
    have H1:(impl_AddrOk.l0 kj1 l0_1 (l0_1.length:Int) 0 a0_0 l0_1 a0_2 a0_3) = some r:=by rw [if_neg (show ¬ (false = true) by decide)] at H;exact H
    clear H
    have H:=H1
    clear H1
    have H':=Am H
    clear H
    obtain ⟨hcz9_0,hcz9_1,hcz9_2,hcz9_3,hfz9_0,hfz9_1,hfz9_2,hfz9_3⟩:=bX BK415.out







    go_wp2
    go_loopg [18] kj1 (fun kq v18 w'=>∃ (x18_2:Int),v18 = .int .i64 x18_2 ∧ Aside0 (impl_AddrOk.l0 kq l0_1 (l0_1.length:Int) x18_2 a0_0 l0_1 a0_2 a0_3 = some r) ∧ Aside0 (kq ≤ kj1) ∧ Aside0 (w'.heap[gb415]? = some (.cells #[.string a0_0,(.slice A0_1 l0_1.length c0_1), .bool a0_2, .string a0_3] 25 (0,0))) ∧ Aside0 (Below w.heap.size w w'))
    case atStart=>exact ⟨(0),(by first|rfl|(simp;done)|(simp only [i64_w,i32_w] <;> rfl)|(simp [*];done)|(simp [emp_bne,emp_beq];done)),H',⟨Nat.le_refl _⟩,⟨by refine bB ?_;exact BK415.out⟩,⟨by repeat (first|(with_reducible first|exact HB.out|apply bA|apply bN|apply bD|refine bS ?_ GE415.out)|exact HB.out)⟩⟩
    case round =>
     clear H'
     try clear c2
     try clear p2
     try clear c5
     try clear c8
     try clear hcz6_0
     try clear hcz6_1
     try clear hcz6_2
     try clear hcz6_3
     try clear hcz7_0
     try clear hcz7_1
     try clear hcz7_2
     try clear hcz7_3
     try clear hcz9_0
     try clear hcz9_1
     try clear hcz9_2
     try clear hcz9_3
     try clear hfz6_0
     try clear hfz6_1
     try clear hfz6_2
     try clear hfz6_3
     try clear hfz7_0
     try clear hfz7_1
     try clear hfz7_2
     try clear hfz7_3
     try clear hfz9_0
     try clear hfz9_1
     try clear hfz9_2
     try clear hfz9_3
     try clear p2
     obtain ⟨x18_2,rfl,HA,HK2,BK415,HB⟩:=hrel
     cases gk with
     | zero=>exact absurd HA.out (by simp [impl_AddrOk.l0])
     | succ k2 =>
      have H:=HA.out
      clear HA
      simp only [impl_AddrOk.l0] at H
      by_cases c10:x18_2 < (l0_1.length:Int)
      ·rw [if_pos c10] at H
       have c10b0:decide (x18_2 < (l0_1.length:Int)) = true:=decide_eq_true c10
       clear c10
       by_cases c11:0 ≤ x18_2
       ·rw [if_pos c11] at H
        have c11b0:decide (0 ≤ x18_2) = true:=decide_eq_true c11
        clear c11
        by_cases c12:x18_2 < (l0_1.length:Int)
        ·rw [if_pos c12] at H
         have c12b0:decide (x18_2 < (l0_1.length:Int)) = true:=decide_eq_true c12
         clear c12
         by_cases c13:(rdOf ByteArray.empty l0_1 x18_2).toList = ([]:List UInt8)
         ·rw [if_pos c13] at H
          (try (have c13b0:(rdOf ByteArray.empty l0_1 x18_2).toList.isEmpty = true:=by simpa using c13))
          have c13b1:((rdOf ByteArray.empty l0_1 x18_2).toList == ([]:List UInt8)) = true:=beq_iff_eq.mpr c13
          have c13b2:((rdOf ByteArray.empty l0_1 x18_2).toList != ([]:List UInt8)) = false:=bne_eq_false_iff_eq.mpr c13
          clear c13
          obtain rfl:=Option.some.inj H
          have p417:0 ≤ (x18_2:Int):=oD (by assumption)
          have q417:x18_2 < (l0_1.length:Int):=oD (by assumption)
          obtain ⟨ad417,e417,hx417_0⟩:=Kd.at_string HR0_1.out x18_2 p417 q417
          cases e417
          replace hx417_0:=(HB.out.cell (World.block_lt_of_cell? w _ hx417_0)).trans hx417_0
          replace p417:=eq_true p417
          replace q417:=eq_true q417
          go_wp2
          go_ret
          exact ⟨by first|rfl|(simp <;> rfl)|(simp [*] <;> rfl),by repeat (first|(with_reducible first|exact HB.out|apply bA|apply bN|apply bD|refine bS ?_ GE415.out)|exact HB.out)⟩
         ·rw [if_neg c13] at H
          (try (have c13b0:(rdOf ByteArray.empty l0_1 x18_2).toList.isEmpty = false:=by simpa using c13))
          have c13b1:((rdOf ByteArray.empty l0_1 x18_2).toList == ([]:List UInt8)) = false:=beq_eq_false_iff_ne.mpr c13
          have c13b2:((rdOf ByteArray.empty l0_1 x18_2).toList != ([]:List UInt8)) = true:=bne_iff_ne.mpr c13
          by_cases c14:(rdOf ByteArray.empty l0_1 x18_2).toList = ([46]:List UInt8)
          ·rw [if_pos c14] at H
           have c14b0:((rdOf ByteArray.empty l0_1 x18_2).toList == ([46]:List UInt8)) = true:=beq_iff_eq.mpr c14
           have c14b1:((rdOf ByteArray.empty l0_1 x18_2).toList != ([46]:List UInt8)) = false:=bne_eq_false_iff_eq.mpr c14
           clear c14
           obtain rfl:=Option.some.inj H
           have p417:0 ≤ (x18_2:Int):=oD (by assumption)
           have q417:x18_2 < (l0_1.length:Int):=oD (by assumption)
           obtain ⟨ad417,e417,hx417_0⟩:=Kd.at_string HR0_1.out x18_2 p417 q417
           cases e417
           replace hx417_0:=(HB.out.cell (World.block_lt_of_cell? w _ hx417_0)).trans hx417_0
           replace p417:=eq_true p417
           replace q417:=eq_true q417
           go_wp2
           go_ret
           exact ⟨by first|rfl|(simp <;> rfl)|(simp [*] <;> rfl),by repeat (first|(with_reducible first|exact HB.out|apply bA|apply bN|apply bD|refine bS ?_ GE415.out)|exact HB.out)⟩
          ·rw [if_neg c14] at H
           have c14b0:((rdOf ByteArray.empty l0_1 x18_2).toList == ([46]:List UInt8)) = false:=beq_eq_false_iff_ne.mpr c14
           have c14b1:((rdOf ByteArray.empty l0_1 x18_2).toList != ([46]:List UInt8)) = true:=bne_iff_ne.mpr c14
           by_cases c15:(rdOf ByteArray.empty l0_1 x18_2).toList = ([46,46]:List UInt8)
           ·rw [if_pos c15] at H
            have c15b0:((rdOf ByteArray.empty l0_1 x18_2).toList == ([46,46]:List UInt8)) = true:=beq_iff_eq.mpr c15
            have c15b1:((rdOf ByteArray.empty l0_1 x18_2).toList != ([46,46]:List UInt8)) = false:=bne_eq_false_iff_eq.mpr c15
            clear c15
            obtain rfl:=Option.some.inj H
            have p417:0 ≤ (x18_2:Int):=oD (by assumption)
            have q417:x18_2 < (l0_1.length:Int):=oD (by assumption)
            obtain ⟨ad417,e417,hx417_0⟩:=Kd.at_string HR0_1.out x18_2 p417 q417
            cases e417
            replace hx417_0:=(HB.out.cell (World.block_lt_of_cell? w _ hx417_0)).trans hx417_0
            replace p417:=eq_true p417
            replace q417:=eq_true q417
            go_wp2
            go_ret
            exact ⟨by first|rfl|(simp <;> rfl)|(simp [*] <;> rfl),by repeat (first|(with_reducible first|exact HB.out|apply bA|apply bN|apply bD|refine bS ?_ GE415.out)|exact HB.out)⟩
           ·rw [if_neg c15] at H
            have c15b0:((rdOf ByteArray.empty l0_1 x18_2).toList == ([46,46]:List UInt8)) = false:=beq_eq_false_iff_ne.mpr c15
            have c15b1:((rdOf ByteArray.empty l0_1 x18_2).toList != ([46,46]:List UInt8)) = true:=bne_iff_ne.mpr c15
            replace H:=bI H
            obtain ⟨t418,A160,H⟩:=H
            replace H:(if t418 = true then (impl_AddrOk.l0 k2 l0_1 (l0_1.length:Int) (wrap64 (x18_2 + 1)) a0_0 l0_1 a0_2 a0_3) else (some false)) = some r:=H
            have A16:=Am A160
            clear A160
            by_cases c17:t418 = true
            ·subst c17
             have H1:(impl_AddrOk.l0 k2 l0_1 (l0_1.length:Int) (wrap64 (x18_2 + 1)) a0_0 l0_1 a0_2 a0_3) = some r:=by rw [if_pos rfl] at H;exact H
             clear H
             have H:=H1
             clear H1
             have H':=Am H
             clear H
             have p417:0 ≤ (x18_2:Int):=oD (by assumption)
             have q417:x18_2 < (l0_1.length:Int):=oD (by assumption)
             obtain ⟨ad417,e417,hx417_0⟩:=Kd.at_string HR0_1.out x18_2 p417 q417
             cases e417
             replace hx417_0:=(HB.out.cell (World.block_lt_of_cell? w _ hx417_0)).trans hx417_0
             replace p417:=eq_true p417
             replace q417:=eq_true q417
             go_wp2_with (first|(go_at_call 56;(with_reducible refine (impl_isNormal.calls k2 (rdOf ByteArray.empty l0_1 x18_2) true _ A16.out).mono ?_);rintro e w18 ⟨rfl,hb⟩;have n0_:=Am (blk_below (bB BK415.out) hb);have n1_:=Am (bT (by repeat (first|(with_reducible first|exact HB.out|apply bA|apply bN|apply bD|refine bS ?_ GE415.out)|exact HB.out)) hb);clear BK415 HB;have BK415:=n0_;have HB:=n1_;clear n0_ n1_;(try clear hb)))
             go_roundg k2
             case measure=>have:=HJ1.out;have:=HK2.out;omega
             case rel=>exact ⟨(wrap64 (x18_2 + 1)),(by first|rfl|(simp;done)|(simp only [i64_w,i32_w] <;> rfl)|(simp [*];done)|(simp [emp_bne,emp_beq];done)),H',⟨by have:=HJ1.out;have:=HK2.out;omega⟩,⟨by refine bB ?_;exact BK415.out⟩,⟨by repeat (first|(with_reducible first|exact HB.out|apply bA|apply bN|apply bD|refine bS ?_ GE415.out)|exact HB.out)⟩⟩
            ·replace c17:=Bool.eq_false_iff.mpr c17
             subst c17
             have H1:(some false) = some r:=by rw [if_neg (show ¬ (false = true) by decide)] at H;exact H
             clear H
             have H:=H1
             clear H1
             obtain rfl:=Option.some.inj H
             have p417:0 ≤ (x18_2:Int):=oD (by assumption)
             have q417:x18_2 < (l0_1.length:Int):=oD (by assumption)
             obtain ⟨ad417,e417,hx417_0⟩:=Kd.at_string HR0_1.out x18_2 p417 q417
             cases e417
             replace hx417_0:=(HB.out.cell (World.block_lt_of_cell? w _ hx417_0)).trans hx417_0
             replace p417:=eq_true p417
             replace q417:=eq_true q417
             go_wp2_with (first|(go_at_call 56;(with_reducible refine (impl_isNormal.calls k2 (rdOf ByteArray.empty l0_1 x18_2) false _ A16.out).mono ?_);rintro e w19 ⟨rfl,hb⟩;have n0_:=Am (blk_below (bB BK415.out) hb);have n1_:=Am (bT (by repeat (first|(with_reducible first|exact HB.out|apply bA|apply bN|apply bD|refine bS ?_ GE415.out)|exact HB.out)) hb);clear BK415 HB;have BK415:=n0_;have HB:=n1_;clear n0_ n1_;(try clear hb)))
             go_ret
             exact ⟨by first|rfl|(simp <;> rfl)|(simp [*] <;> rfl),by repeat (first|(with_reducible first|exact HB.out|apply bA|apply bN|apply bD|refine bS ?_ GE415.out)|exact HB.out)⟩
        ·rw [if_neg c12] at H
         exact absurd H (by simp)
       ·rw [if_neg c11] at H
        exact absurd H (by simp)
      ·rw [if_neg c10] at H
       have c10b0:decide (x18_2 < (l0_1.length:Int)) = false:=decide_eq_false c10
       clear c10
       replace H:=bI H
       obtain ⟨t419,A200,H⟩:=H
       replace H:(if t419 = true then (if a0_2 = true then ((impl_writeAddr.f a0_0 l0_1 a0_2 a0_3).bind fun t420=>(some (decide ((t420.size:Int) ≤ 60)))) else (if a0_3.toList = ([]:List UInt8) then ((impl_writeAddr.f a0_0 l0_1 a0_2 a0_3).bind fun t421=>(some (decide ((t421.size:Int) ≤ 60)))) else (some false))) else (some false)) = some r:=H
       have A20:=Am A200
       clear A200
       by_cases c21:t419 = true
       ·subst c21
        have H1:(if a0_2 = true then ((impl_writeAddr.f a0_0 l0_1 a0_2 a0_3).bind fun t420=>(some (decide ((t420.size:Int) ≤ 60)))) else (if a0_3.toList = ([]:List UInt8) then ((impl_writeAddr.f a0_0 l0_1 a0_2 a0_3).bind fun t421=>(some (decide ((t421.size:Int) ≤ 60)))) else (some false))) = some r:=by rw [if_pos rfl] at H;exact H
        clear H
        have H:=H1
        clear H1
        by_cases c22:a0_2 = true
        ·subst c22
         have H1:((impl_writeAddr.f a0_0 l0_1 true a0_3).bind fun t420=>(some (decide ((t420.size:Int) ≤ 60)))) = some r:=by rw [if_pos rfl] at H;exact H
         clear H
         have H:=H1
         clear H1
         replace H:=bI H
         obtain ⟨t420,A230,H⟩:=H
         replace H:(some (decide ((t420.size:Int) ≤ 60))) = some r:=H
         have A23:=Am A230
         clear A230
         obtain rfl:=Option.some.inj H
         obtain ⟨hcz24_0,hcz24_1,hcz24_2,hcz24_3,hfz24_0,hfz24_1,hfz24_2,hfz24_3⟩:=bX BK415.out







         go_wp2_with (first|((with_reducible refine gate_callee (f:=56) rfl ?_);refine goesL_ (some 40) rfl rfl Tryd.func56 (by kernel_rfl) rfl #[.string a0_3] rfl (aE1 rfl) ?_;(with_reducible refine (impl_isNormal.calls k2 a0_3 true _ A20.out).mono ?_);rintro e w25 ⟨rfl,hb⟩;refine ⟨_,rfl,?_⟩;have n0_:=Am (blk_below (bB BK415.out) hb);have n1_:=Am (bT (by repeat (first|(with_reducible first|exact HB.out|apply bA|apply bN|apply bD|refine bS ?_ GE415.out)|exact HB.out)) hb);clear BK415 HB;have BK415:=n0_;have HB:=n1_;clear n0_ n1_;(try clear hb);obtain ⟨hcz26_0,hcz26_1,hcz26_2,hcz26_3,hfz26_0,hfz26_1,hfz26_2,hfz26_3⟩:=bX BK415.out)|((with_reducible refine gate_callee (f:=46) rfl ?_);refine goesL_ (some 53) rfl rfl Tryd.func46 (by kernel_rfl) rfl #[.agg #[.string a0_0, .slice A0_1 l0_1.length c0_1, .bool true, .string a0_3]] rfl (aE1 rfl) ?_;(with_reducible refine (impl_writeAddr.calls a0_0 _ _ l0_1 true a0_3 t420 _ ?side1 ?side2 A23.out).mono ?_);(case side1=>repeat (first|exact (Kd.C_below HR0_1.out HB.out)|(with_reducible refine bC ?_)));(case side2=>exact HC0_1.out);rintro e w27 ⟨rfl,hb⟩;refine ⟨_,rfl,?_⟩;have n0_:=Am (blk_below (bB BK415.out) hb);have n1_:=Am (bT (by repeat (first|(with_reducible first|exact HB.out|apply bA|apply bN|apply bD|refine bS ?_ GE415.out)|exact HB.out)) hb);clear BK415 HB;have BK415:=n0_;have HB:=n1_;clear n0_ n1_;(try clear hb)))
         go_ret
         exact ⟨by first|rfl|(simp <;> rfl)|(simp [*] <;> rfl),by repeat (first|(with_reducible first|exact HB.out|apply bA|apply bN|apply bD|refine bS ?_ GE415.out)|exact HB.out)⟩
        ·replace c22:=Bool.eq_false_iff.mpr c22
         subst c22
         have H1:(if a0_3.toList = ([]:List UInt8) then ((impl_writeAddr.f a0_0 l0_1 false a0_3).bind fun t421=>(some (decide ((t421.size:Int) ≤ 60)))) else (some false)) = some r:=by rw [if_neg (show ¬ (false = true) by decide)] at H;exact H
         clear H
         have H:=H1
         clear H1
         by_cases c28:a0_3.toList = ([]:List UInt8)
         ·rw [if_pos c28] at H
          (try (have c28b0:a0_3.toList.isEmpty = true:=by simpa using c28))
          have c28b1:(a0_3.toList == ([]:List UInt8)) = true:=beq_iff_eq.mpr c28
          have c28b2:(a0_3.toList != ([]:List UInt8)) = false:=bne_eq_false_iff_eq.mpr c28
          clear c28
          replace H:=bI H
          obtain ⟨t421,A290,H⟩:=H
          replace H:(some (decide ((t421.size:Int) ≤ 60))) = some r:=H
          have A29:=Am A290
          clear A290
          obtain rfl:=Option.some.inj H
          obtain ⟨hcz30_0,hcz30_1,hcz30_2,hcz30_3,hfz30_0,hfz30_1,hfz30_2,hfz30_3⟩:=bX BK415.out







          go_wp2_with (first|((with_reducible refine gate_callee (f:=56) rfl ?_);refine goesL_ (some 40) rfl rfl Tryd.func56 (by kernel_rfl) rfl #[.string a0_3] rfl (aE1 rfl) ?_;(with_reducible refine (impl_isNormal.calls k2 a0_3 true _ A20.out).mono ?_);rintro e w31 ⟨rfl,hb⟩;refine ⟨_,rfl,?_⟩;have n0_:=Am (blk_below (bB BK415.out) hb);have n1_:=Am (bT (by repeat (first|(with_reducible first|exact HB.out|apply bA|apply bN|apply bD|refine bS ?_ GE415.out)|exact HB.out)) hb);clear BK415 HB;have BK415:=n0_;have HB:=n1_;clear n0_ n1_;(try clear hb);obtain ⟨hcz32_0,hcz32_1,hcz32_2,hcz32_3,hfz32_0,hfz32_1,hfz32_2,hfz32_3⟩:=bX BK415.out)|((with_reducible refine gate_callee (f:=46) rfl ?_);refine goesL_ (some 53) rfl rfl Tryd.func46 (by kernel_rfl) rfl #[.agg #[.string a0_0, .slice A0_1 l0_1.length c0_1, .bool false, .string a0_3]] rfl (aE1 rfl) ?_;(with_reducible refine (impl_writeAddr.calls a0_0 _ _ l0_1 false a0_3 t421 _ ?side1 ?side2 A29.out).mono ?_);(case side1=>repeat (first|exact (Kd.C_below HR0_1.out HB.out)|(with_reducible refine bC ?_)));(case side2=>exact HC0_1.out);rintro e w33 ⟨rfl,hb⟩;refine ⟨_,rfl,?_⟩;have n0_:=Am (blk_below (bB BK415.out) hb);have n1_:=Am (bT (by repeat (first|(with_reducible first|exact HB.out|apply bA|apply bN|apply bD|refine bS ?_ GE415.out)|exact HB.out)) hb);clear BK415 HB;have BK415:=n0_;have HB:=n1_;clear n0_ n1_;(try clear hb)))
          go_ret
          exact ⟨by first|rfl|(simp <;> rfl)|(simp [*] <;> rfl),by repeat (first|(with_reducible first|exact HB.out|apply bA|apply bN|apply bD|refine bS ?_ GE415.out)|exact HB.out)⟩
         ·rw [if_neg c28] at H
          (try (have c28b0:a0_3.toList.isEmpty = false:=by simpa using c28))
          have c28b1:(a0_3.toList == ([]:List UInt8)) = false:=beq_eq_false_iff_ne.mpr c28
          have c28b2:(a0_3.toList != ([]:List UInt8)) = true:=bne_iff_ne.mpr c28
          obtain rfl:=Option.some.inj H
          obtain ⟨hcz34_0,hcz34_1,hcz34_2,hcz34_3,hfz34_0,hfz34_1,hfz34_2,hfz34_3⟩:=bX BK415.out







          go_wp2_with (first|((with_reducible refine gate_callee (f:=56) rfl ?_);refine goesL_ (some 40) rfl rfl Tryd.func56 (by kernel_rfl) rfl #[.string a0_3] rfl (aE1 rfl) ?_;(with_reducible refine (impl_isNormal.calls k2 a0_3 true _ A20.out).mono ?_);rintro e w35 ⟨rfl,hb⟩;refine ⟨_,rfl,?_⟩;have n0_:=Am (blk_below (bB BK415.out) hb);have n1_:=Am (bT (by repeat (first|(with_reducible first|exact HB.out|apply bA|apply bN|apply bD|refine bS ?_ GE415.out)|exact HB.out)) hb);clear BK415 HB;have BK415:=n0_;have HB:=n1_;clear n0_ n1_;(try clear hb);obtain ⟨hcz36_0,hcz36_1,hcz36_2,hcz36_3,hfz36_0,hfz36_1,hfz36_2,hfz36_3⟩:=bX BK415.out))
          go_ret
          exact ⟨by first|rfl|(simp <;> rfl)|(simp [*] <;> rfl),by repeat (first|(with_reducible first|exact HB.out|apply bA|apply bN|apply bD|refine bS ?_ GE415.out)|exact HB.out)⟩
       ·replace c21:=Bool.eq_false_iff.mpr c21
        subst c21
        have H1:(some false) = some r:=by rw [if_neg (show ¬ (false = true) by decide)] at H;exact H
        clear H
        have H:=H1
        clear H1
        obtain rfl:=Option.some.inj H
        obtain ⟨hcz37_0,hcz37_1,hcz37_2,hcz37_3,hfz37_0,hfz37_1,hfz37_2,hfz37_3⟩:=bX BK415.out







        go_wp2_with (first|((with_reducible refine gate_callee (f:=56) rfl ?_);refine goesL_ (some 40) rfl rfl Tryd.func56 (by kernel_rfl) rfl #[.string a0_3] rfl (aE1 rfl) ?_;(with_reducible refine (impl_isNormal.calls k2 a0_3 false _ A20.out).mono ?_);rintro e w38 ⟨rfl,hb⟩;refine ⟨_,rfl,?_⟩;have n0_:=Am (blk_below (bB BK415.out) hb);have n1_:=Am (bT (by repeat (first|(with_reducible first|exact HB.out|apply bA|apply bN|apply bD|refine bS ?_ GE415.out)|exact HB.out)) hb);clear BK415 HB;have BK415:=n0_;have HB:=n1_;clear n0_ n1_;(try clear hb)))
        go_ret
        exact ⟨by first|rfl|(simp <;> rfl)|(simp [*] <;> rfl),by repeat (first|(with_reducible first|exact HB.out|apply bA|apply bN|apply bD|refine bS ?_ GE415.out)|exact HB.out)⟩

def stringslite_Index.f (a0 a1:ByteArray):Option Int:=if a1.size = 1 then some (Go.Lib.indexByte a0.data.toList (a1.data.toList.headD 0)) else none
set_option maxHeartbeats 1000000 in
set_option maxRecDepth 100000 in
theorem stringslite_Index.byte (a0:ByteArray) (a1:Int) (w:World) :
  Calls Tryd.prog 92 #[.string a0, .int .u8 a1] w fun e w'=>e = .returned (.int .i64 (Go.Lib.indexByte a0.data.toList a1.toNat.toUInt8)) ∧ ∃ nd,w' = w.drewN nd:=by
 go_enter Tryd.func92,Tryd.ntmps92
 go_wp2
 rw [run_callFunc_extern Tryd.func104 (by kernel_rfl) (by kernel_rfl) (by kernel_rfl) (e:=Extern.BytealgIndexByte.indexByte) (by kernel_rfl),Go.Lib.run_indexByteString]
 simp only [Result.andThen]
 rw [Oper.upon_value]
 go_wp2
 go_ret
 exact ⟨rfl,0,rfl⟩
set_option maxHeartbeats 1000000 in
set_option maxRecDepth 100000 in
theorem stringslite_Index.calls (a0 a1:ByteArray) (r:Int) (w:World) (h:stringslite_Index.f a0 a1 = some r) :
  Calls Tryd.prog 80 #[.string a0, .string a1] w fun e w'=>e = .returned (.int .i64 r) ∧ ∃ nd,w' = w.drewN nd:=by
 unfold stringslite_Index.f at h
 split at h
 rotate_left
 ·cases h
 rename_i hs
 obtain rfl:=Option.some.inj h
 clear h
 have HH:=Am (show ∀ h:0 < a1.size,(a1[0]'h) = a1.data.toList.headD 0 by
  obtain ⟨c,rfl⟩:=Go.Lib.one_byte a1 hs
  intro _;rfl)
 have HZ:=Am (show a1.toList = a0.toList → Go.Lib.indexByte a0.data.toList (a1.data.toList.headD 0) = 0 by
  intro e
  obtain ⟨c,rfl⟩:=Go.Lib.one_byte a1 hs
  rw [Go.ByteArray.toList_eq,Go.ByteArray.toList_eq] at e
  rw [← e]
  simp [Go.Lib.indexByte])
 have h0:(((a1.size:Nat):Int) == 0) = false:=by rw [hs];rfl
 have h1:(((a1.size:Nat):Int) == 1) = true:=by rw [hs];rfl
 have hlt:0 < a1.size:=by omega
 generalize hx:a1.data.toList.headD 0 = x at HH HZ ⊢
 clear hs hx
 by_cases e:a1.toList = a0.toList
 ·have hb:(a1.toList == a0.toList) = true:=beq_iff_eq.mpr e
  have HR:=Am (HZ.out e)
  clear e HZ HH
  go_enter Tryd.func80,Tryd.ntmps80
  go_wp2
  go_ret
  exact ⟨congrArg (fun n=>Ending.returned (Value.int IntKind.i64 n)) HR.out.symm,0,rfl⟩
 ·have hb:(a1.toList == a0.toList) = false:=beq_eq_false_iff_ne.mpr e
  clear e HZ
  go_enter Tryd.func80,Tryd.ntmps80
  go_wp2_with (go_at_call 92;refine (stringslite_Index.byte _ _ _).mono ?_;rintro e w' ⟨rfl,nd,rfl⟩)
  go_ret
  exact ⟨by rw [← HH.out hlt];simp,_,rfl⟩

end Go.Proofs.YtbnnamjaljohiaaDoor.P
