-- Written by a program of this session (patch_print.py over the kit's print; given texts in wip/given).
-- Cut down by a program of this session (wip/tools/prune.py) to what its claim can name.
import Derived.Test.YtbnnamjaljohiaaDoorSq
import Derived.Test.YtbnnamjaljohiaaDoorPx0
import Derived.Test.YtbnnamjaljohiaaDoorPx4
namespace Go.Proofs.YtbnnamjaljohiaaDoor.P
open Go.RowKit Go.Proofs.YtbnnamjaljohiaaDoorW.PrintWords Go.Proofs.YtbnnamjaljohiaaDoorW.PrintLast Go.Proofs.YtbnnamjaljohiaaDoorW.PrintMore
attribute [local go_sem] max2_int min2_int max_two min_two max_three min_three max_four min_four   -- for this text's walks alone
set_option linter.unusedVariables false
set_option linter.unusedSimpArgs false
set_option maxHeartbeats 8000000
set_option maxRecDepth 100000

/-! ### impl_readWhole: function 38 -/
def impl_readWhole.f (k:Nat) (a0:ByteArray):Option (ByteArray × List ByteArray × Bool × ByteArray × Bool):=(strings_CutPrefix.f a0 (⟨#[47,47]⟩:ByteArray)).bind fun bt412=>(if bt412.2 = true then ((strings_IndexAny.f bt412.1 (⟨#[47,63]⟩:ByteArray)).bind fun t414=>(if t414 < 0 then (if 0 ≤ (bt412.1.size:Int) then (if (bt412.1.size:Int) ≤ (bt412.1.size:Int) then ((impl_smallLetters.f (bt412.1.extract 0 ((bt412.1.size:Int):Int).toNat)).bind fun t415=>((impl_readWay.f k t415 ([]:List ByteArray) (bt412.1.extract ((bt412.1.size:Int):Int).toNat bt412.1.size)).bind fun bt416=>(some (bt416.1,bt416.2.1,bt416.2.2.1,bt416.2.2.2.1,bt416.2.2.2.2)))) else (none)) else (none)) else (if 0 ≤ t414 then (if t414 ≤ (bt412.1.size:Int) then ((impl_smallLetters.f (bt412.1.extract 0 (t414:Int).toNat)).bind fun t423=>((impl_readWay.f k t423 ([]:List ByteArray) (bt412.1.extract (t414:Int).toNat bt412.1.size)).bind fun bt424=>(some (bt424.1,bt424.2.1,bt424.2.2.1,bt424.2.2.2.1,bt424.2.2.2.2)))) else (none)) else (none)))) else (some ((⟨#[]⟩:ByteArray),([]:List ByteArray),false,(⟨#[]⟩:ByteArray),false)))
theorem impl_readWhole.mono:∀ a0 k,LeO (impl_readWhole.f k a0) (impl_readWhole.f (k + 1) a0):=by
 intro a0 k
 unfold impl_readWhole.f
 repeat' first
   | (with_reducible apply impl_readWay.mono)
   | (with_reducible exact LeO.refl _)
   | (with_reducible exact LeO.none _)
   | (with_reducible refine LeO.ite ?_ ?_)
   | (with_reducible refine LeO.bind ?_ (fun _=>?_))
   | exact impl_readWay.mono _ _ _ _
   | exact LeO.none _
   | refine LeO.ite ?_ ?_
   | refine LeO.bind ?_ (fun _=>?_)
def impl_readWhole.T7:Bool × List (List Nat × List Nat):=(true,[([],[]),([],[]),([0,1],[0,1]),([2],[2]),([],[]),([],[]),([4,5],[4,5]),([3,6,3],[3,6]),([7],[7]),([7],[7]),([8,7,0,1,2,3,4,5,6,7,8,9],[8]),([9,10,0,1,2,3,4,5,6,7,8,9,10],[9])])
def impl_readWhole.B7:List Nat:=[0,0,3,7,0,0,48,127,255,255,1023,2047]
theorem impl_readWhole.tab7:rtab .any (opsOf Tryd.f38 7) = impl_readWhole.T7:=by kernel_rfl
theorem impl_readWhole.bits7:waitsOk impl_readWhole.T7.2 impl_readWhole.B7 = true:=by kernel_rfl
theorem impl_readWhole.calls (k:Nat) (a0:ByteArray) (r1:ByteArray) (r2:List ByteArray) (r3:Bool) (r4:ByteArray) (r5:Bool) (w:World) (h:impl_readWhole.f k a0 = some (r1,r2,r3,r4,r5)) :
  Calls Tryd.prog 38 #[.string a0] w fun e w'=>∃ v1_:Value,e = .returned (.tuple #[.agg #[.string r1,v1_, .bool r3, .string r4], .bool r5]) ∧ Kd.R Kd.string 9 w' w.heap.size (fun _=>True) v1_ r2 ∧ Below w.heap.size w w':=by
 have hu25:=Tryd.underlying25
 have HB:=Am (Below.refl w.heap.size w)
 have H:((strings_CutPrefix.f a0 (⟨#[47,47]⟩:ByteArray)).bind fun bt412=>(if bt412.2 = true then ((strings_IndexAny.f bt412.1 (⟨#[47,63]⟩:ByteArray)).bind fun t414=>(if t414 < 0 then (if 0 ≤ (bt412.1.size:Int) then (if (bt412.1.size:Int) ≤ (bt412.1.size:Int) then ((impl_smallLetters.f (bt412.1.extract 0 ((bt412.1.size:Int):Int).toNat)).bind fun t415=>((impl_readWay.f k t415 ([]:List ByteArray) (bt412.1.extract ((bt412.1.size:Int):Int).toNat bt412.1.size)).bind fun bt416=>(some (bt416.1,bt416.2.1,bt416.2.2.1,bt416.2.2.2.1,bt416.2.2.2.2)))) else (none)) else (none)) else (if 0 ≤ t414 then (if t414 ≤ (bt412.1.size:Int) then ((impl_smallLetters.f (bt412.1.extract 0 (t414:Int).toNat)).bind fun t423=>((impl_readWay.f k t423 ([]:List ByteArray) (bt412.1.extract (t414:Int).toNat bt412.1.size)).bind fun bt424=>(some (bt424.1,bt424.2.1,bt424.2.2.1,bt424.2.2.2.1,bt424.2.2.2.2)))) else (none)) else (none)))) else (some ((⟨#[]⟩:ByteArray),([]:List ByteArray),false,(⟨#[]⟩:ByteArray),false)))) = some (r1,r2,r3,r4,r5):=h
 clear h
 replace H:=bI H
 obtain ⟨⟨t412,t413⟩,A20,H⟩:=H
 replace H:(if t413 = true then ((strings_IndexAny.f t412 (⟨#[47,63]⟩:ByteArray)).bind fun t414=>(if t414 < 0 then (if 0 ≤ (t412.size:Int) then (if (t412.size:Int) ≤ (t412.size:Int) then ((impl_smallLetters.f (t412.extract 0 ((t412.size:Int):Int).toNat)).bind fun t415=>((impl_readWay.f k t415 ([]:List ByteArray) (t412.extract ((t412.size:Int):Int).toNat t412.size)).bind fun bt416=>(some (bt416.1,bt416.2.1,bt416.2.2.1,bt416.2.2.2.1,bt416.2.2.2.2)))) else (none)) else (none)) else (if 0 ≤ t414 then (if t414 ≤ (t412.size:Int) then ((impl_smallLetters.f (t412.extract 0 (t414:Int).toNat)).bind fun t423=>((impl_readWay.f k t423 ([]:List ByteArray) (t412.extract (t414:Int).toNat t412.size)).bind fun bt424=>(some (bt424.1,bt424.2.1,bt424.2.2.1,bt424.2.2.2.1,bt424.2.2.2.2)))) else (none)) else (none)))) else (some ((⟨#[]⟩:ByteArray),([]:List ByteArray),false,(⟨#[]⟩:ByteArray),false))) = some (r1,r2,r3,r4,r5):=H
 have A2:=Am A20
 clear A20
 by_cases c3:t413 = true
 ·subst c3
  have H1:((strings_IndexAny.f t412 (⟨#[47,63]⟩:ByteArray)).bind fun t414=>(if t414 < 0 then (if 0 ≤ (t412.size:Int) then (if (t412.size:Int) ≤ (t412.size:Int) then ((impl_smallLetters.f (t412.extract 0 ((t412.size:Int):Int).toNat)).bind fun t415=>((impl_readWay.f k t415 ([]:List ByteArray) (t412.extract ((t412.size:Int):Int).toNat t412.size)).bind fun bt416=>(some (bt416.1,bt416.2.1,bt416.2.2.1,bt416.2.2.2.1,bt416.2.2.2.2)))) else (none)) else (none)) else (if 0 ≤ t414 then (if t414 ≤ (t412.size:Int) then ((impl_smallLetters.f (t412.extract 0 (t414:Int).toNat)).bind fun t423=>((impl_readWay.f k t423 ([]:List ByteArray) (t412.extract (t414:Int).toNat t412.size)).bind fun bt424=>(some (bt424.1,bt424.2.1,bt424.2.2.1,bt424.2.2.2.1,bt424.2.2.2.2)))) else (none)) else (none)))) = some (r1,r2,r3,r4,r5):=by rw [if_pos rfl] at H;exact H
  clear H
  have H:=H1
  clear H1
  replace H:=bI H
  obtain ⟨t414,A40,H⟩:=H
  replace H:(if t414 < 0 then (if 0 ≤ (t412.size:Int) then (if (t412.size:Int) ≤ (t412.size:Int) then ((impl_smallLetters.f (t412.extract 0 ((t412.size:Int):Int).toNat)).bind fun t415=>((impl_readWay.f k t415 ([]:List ByteArray) (t412.extract ((t412.size:Int):Int).toNat t412.size)).bind fun bt416=>(some (bt416.1,bt416.2.1,bt416.2.2.1,bt416.2.2.2.1,bt416.2.2.2.2)))) else (none)) else (none)) else (if 0 ≤ t414 then (if t414 ≤ (t412.size:Int) then ((impl_smallLetters.f (t412.extract 0 (t414:Int).toNat)).bind fun t423=>((impl_readWay.f k t423 ([]:List ByteArray) (t412.extract (t414:Int).toNat t412.size)).bind fun bt424=>(some (bt424.1,bt424.2.1,bt424.2.2.1,bt424.2.2.2.1,bt424.2.2.2.2)))) else (none)) else (none))) = some (r1,r2,r3,r4,r5):=H
  have A4:=Am A40
  clear A40
  by_cases c5:t414 < 0
  ·rw [if_pos c5] at H
   have c5b0:decide (t414 < 0) = true:=decide_eq_true c5
   clear c5
   by_cases c6:0 ≤ (t412.size:Int)
   ·rw [if_pos c6] at H
    have c6b0:=eq_true c6
    have c6b1:=decide_eq_true c6
    clear c6
    by_cases c7:(t412.size:Int) ≤ (t412.size:Int)
    ·rw [if_pos c7] at H
     have c7b0:=eq_true c7
     have c7b1:=decide_eq_true c7
     clear c7
     replace H:=bI H
     obtain ⟨t415,A80,H⟩:=H
     replace H:((impl_readWay.f k t415 ([]:List ByteArray) (t412.extract ((t412.size:Int):Int).toNat t412.size)).bind fun bt416=>(some (bt416.1,bt416.2.1,bt416.2.2.1,bt416.2.2.2.1,bt416.2.2.2.2))) = some (r1,r2,r3,r4,r5):=H
     have A8:=Am A80
     clear A80
     have c9b0:=eq_true (oD (by assumption):0 ≤ (t412.size:Int))
     have c10b0:=eq_true (oD (by assumption):(t412.size:Int) ≤ (t412.size:Int))
     replace H:=bI H
     obtain ⟨⟨t416,t417,t420,t421,t422⟩,A110,H⟩:=H
     replace H:(some (t416,t417,t420,t421,t422)) = some (r1,r2,r3,r4,r5):=H
     have A11:=Am A110
     clear A110
     simp only [Option.some.injEq,Prod.mk.injEq] at H
     obtain ⟨rfl,rfl,rfl,rfl,rfl⟩:=H
     go_enter Tryd.func38,Tryd.ntmps38
     try go_wp2_with (first|((with_reducible refine gate_dst (N:=2) rfl ?_);refine box_event ?hg (N:=2) ?hd (cs:=#[.string (⟨#[]⟩:ByteArray), .slice none 0 0, .bool false, .string (⟨#[]⟩:ByteArray)]) (t:=25) ?hr ?_;(case hd=>rfl);(case hg=>rfl);(case hr=>(go_simp <;> rfl));intro gb411 hg w12 hbox hb;have n0_:=Am (bT (by repeat (first|(with_reducible first|exact HB.out|apply bA|apply bN|apply bD)|exact HB.out)) hb);have n1_:=Am (hbox);have n2_:=Am ((by rw [hg];exact (bU (by repeat (first|(with_reducible first|exact HB.out|apply bA|apply bN|apply bD)|exact HB.out))):w.heap.size ≤ gb411));have n3_:=n2_;clear HB;have HB:=n0_;have BK411:=n1_;have GW411:=n2_;have GE411:=n3_;clear n0_ n1_ n2_ n3_ hb hbox hg)|((with_reducible refine gate_callee (f:=64) rfl ?_);refine goesL_ (some 9) rfl rfl Tryd.func64 (by kernel_rfl) rfl #[.string a0, .string (⟨#[47,47]⟩:ByteArray)] rfl (by (try simp only [List.map_toArray,List.map_cons,List.map_nil]);first|done|rfl|(simp only [List.length_drop,List.length_take];rfl)|(simp [Act.eval,Array.getD_eq_getD_getElem?];done)) ?_;(with_reducible refine (strings_CutPrefix.calls a0 (⟨#[47,47]⟩:ByteArray) t412 true _ A2.out).mono ?_);rintro e w' ⟨rfl,⟨nd,rfl⟩⟩;refine ⟨_,rfl,?_⟩;(try (rw [drewN_self w12];generalize hq_:World.drewN w12 _ = w12;have n0_:Aside0 (w12.heap[gb411]? = some (.cells #[.string (⟨#[]⟩:ByteArray), .slice none 0 0, .bool false, .string (⟨#[]⟩:ByteArray)] 25 (0,0))):=⟨by rw [← hq_];exact (bB BK411.out)⟩;have n1_:Aside0 (Below w.heap.size w w12):=⟨by rw [← hq_];exact (by repeat (first|(with_reducible first|exact HB.out|apply bA|apply bN|apply bD|refine bS ?_ GE411.out)|exact HB.out))⟩;clear BK411 HB hq_;have BK411:=n0_;have HB:=n1_;clear n0_ n1_)))|((with_reducible refine gate_callee (f:=65) rfl ?_);refine goesL_ (some 16) rfl rfl Tryd.func65 (by kernel_rfl) rfl #[.string t412, .string (⟨#[47,63]⟩:ByteArray)] rfl (by (try simp only [List.map_toArray,List.map_cons,List.map_nil]);first|done|rfl|(simp only [List.length_drop,List.length_take];rfl)|(simp [Act.eval,Array.getD_eq_getD_getElem?];done)) ?_;(with_reducible refine (strings_IndexAny.calls t412 (⟨#[47,63]⟩:ByteArray) t414 _ A4.out).mono ?_);rintro e w13 ⟨rfl,hb⟩;refine ⟨_,rfl,?_⟩;have n0_:=Am (blk_below (bB BK411.out) hb);have n1_:=Am (bT (by repeat (first|(with_reducible first|exact HB.out|apply bA|apply bN|apply bD|refine bS ?_ GE411.out)|exact HB.out)) hb);clear BK411 HB;have BK411:=n0_;have HB:=n1_;clear n0_ n1_;(try clear hb)))
     have n0_:=Am (blk_drew BK411.out)
     have n1_:=Am (below_drew1 HB.out)
     clear BK411
     clear HB
     have BK411:=n0_
     have HB:=n1_
     clear n0_ n1_
     refine start_ (n:=12) (S:=fun w'=>True) (ds:=[]) #[false,false,false,false,false,false,false,false,false,false,false,false] (by kernel_rfl) rfl rfl trivial (fun hHeld=>?_);refine with_tabW impl_readWhole.tab7 impl_readWhole.bits7 (fun HT_ HW_=>?_)
     generalize w13.drew = w14 at BK411 HB hHeld ⊢
     refine pure_ (i:=0) (N:=some 21) (v:=?_) (a':=?_) #[true,false,false,false,false,false,false,false,false,false,false,false] rfl rfl (any_of HT_.out (by kernel_rfl)) (fun _ _ _ h=>h) (Or.inl ⟨by rfl,?_⟩) ?_ ?_
     rotate_left
     ·intro w'
      go_simp
      with_reducible rfl
     rotate_left
     ·simp only [Act.put,List.setIfInBounds_toArray,List.set_cons_zero,List.set_cons_succ,i64_w,i32_w]
      rfl
     refine pure_ (i:=1) (N:=some 22) (v:=?_) (a':=?_) #[true,true,false,false,false,false,false,false,false,false,false,false] rfl rfl (any_of HT_.out (by kernel_rfl)) (fun _ _ _ h=>h) (Or.inl ⟨by rfl,?_⟩) ?_ ?_
     rotate_left
     ·intro w'
      go_simp
      with_reducible rfl
     rotate_left
     ·simp only [Act.put,List.setIfInBounds_toArray,List.set_cons_zero,List.set_cons_succ,i64_w,i32_w]
      rfl
     refine pure_ (i:=2) (N:=some 23) (v:=?_) (a':=?_) #[true,true,true,false,false,false,false,false,false,false,false,false] rfl rfl (any_of HT_.out (by kernel_rfl)) (fun _ _ _ h=>h) (Or.inl ⟨by rfl,?_⟩) ?_ ?_
     rotate_left
     ·intro w'
      go_simp
      with_reducible rfl
     rotate_left
     ·simp only [Act.put,List.setIfInBounds_toArray,List.set_cons_zero,List.set_cons_succ,i64_w,i32_w]
      rfl
     refine pure_ (i:=4) (N:=some 25) (v:=?_) (a':=?_) #[true,true,true,false,true,false,false,false,false,false,false,false] rfl rfl (any_of HT_.out (by kernel_rfl)) (fun _ _ _ h=>h) (Or.inl ⟨by rfl,?_⟩) ?_ ?_
     rotate_left
     ·intro w'
      go_simp
      with_reducible rfl
     rotate_left
     ·simp only [Act.put,List.setIfInBounds_toArray,List.set_cons_zero,List.set_cons_succ,i64_w,i32_w]
      rfl
     refine pure_ (i:=5) (N:=some 26) (v:=?_) (a':=?_) #[true,true,true,false,true,true,false,false,false,false,false,false] rfl rfl (any_of HT_.out (by kernel_rfl)) (fun _ _ _ h=>h) (Or.inl ⟨by rfl,?_⟩) ?_ ?_
     rotate_left
     ·intro w'
      go_simp
      with_reducible rfl
     rotate_left
     ·simp only [Act.put,List.setIfInBounds_toArray,List.set_cons_zero,List.set_cons_succ,i64_w,i32_w]
      rfl
     refine pure_ (i:=6) (N:=some 27) (v:=?_) (a':=?_) #[true,true,true,false,true,true,true,false,false,false,false,false] rfl rfl (any_of HT_.out (by kernel_rfl)) (fun _ _ _ h=>h) (Or.inl ⟨by rfl,?_⟩) ?_ ?_
     rotate_left
     ·intro w'
      go_simp
      with_reducible rfl
     rotate_left
     ·simp only [Act.put,List.setIfInBounds_toArray,List.set_cons_zero,List.set_cons_succ,i64_w,i32_w]
      rfl
     refine one_ (i:=3) (N:=some 24) #[true,true,true,true,true,true,true,false,false,false,false,false] rfl rfl (one_of HT_.out (by kernel_rfl)) (by decide) (fun K hK=>?_)
     refine goes_ Tryd.func66 (by kernel_rfl) rfl #[.string (t412.extract 0 ((t412.size:Int):Int).toNat)] (by rfl) rfl rfl (by (try simp only [List.map_toArray,List.map_cons,List.map_nil]);first|done|rfl|(simp only [List.length_drop,List.length_take];rfl)|(simp [Act.eval,Array.getD_eq_getD_getElem?];done)) ?_
     with_reducible refine (impl_smallLetters.calls (t412.extract 0 ((t412.size:Int):Int).toNat) t415 _ A8.out).mono ?_
     rintro e w15 ⟨rfl,hb⟩
     refine ⟨_,rfl,?_⟩
     have n0_:=Am (blk_below (bB BK411.out) hb)
     have n1_:=Am (bT (by repeat (first|(with_reducible first|exact HB.out|apply bA|apply bN|apply bD|refine bS ?_ GE411.out)|exact HB.out)) hb)
     clear BK411
     clear HB
     have BK411:=n0_
     have HB:=n1_
     clear n0_ n1_
     (try clear hb)
     (try clear hb2)
     (try clear hk)
     (try clear hi)
     refine hK.out _ _ trivial (fun hHeld=>?_)
     clear hK K
     refine norm_ (a':=?_) ?_ ?_
     rotate_left
     ·show Act.put _ (some 24) _ = _
      simp only [Act.put,List.setIfInBounds_toArray,List.set_cons_zero,List.set_cons_succ,i64_w,i32_w]
      rfl
     refine one_ (i:=7) (N:=some 28) #[true,true,true,true,true,true,true,true,false,false,false,false] rfl rfl (one_of HT_.out (by kernel_rfl)) (by decide) (fun K hK=>?_)
     refine goes_ Tryd.func40 (by kernel_rfl) rfl #[.string t415, .slice none 0 0, .string (t412.extract ((t412.size:Int):Int).toNat t412.size)] (by rfl) rfl rfl (by (try simp only [List.map_toArray,List.map_cons,List.map_nil]);first|done|rfl|(simp only [List.length_drop,List.length_take];rfl)|(simp [Act.eval,Array.getD_eq_getD_getElem?];done)) ?_
     refine (impl_readWay.calls k t415 _ _ ([]:List ByteArray) (t412.extract ((t412.size:Int):Int).toNat t412.size) t416 t417 t420 t421 t422 _ ?side1 ?side2 A11.out).mono ?_
     (case side1=>exact Kd.C_nil _ _)
     (case side2=>exact Nat.le_refl _)
     rintro e w16 ⟨v418,rfl,ho0,hb⟩
     refine ⟨_,rfl,?_⟩
     have n0_:=Am (Kd.R_lower ho0 (bU (by repeat (first|(with_reducible first|exact HB.out|apply bA|apply bN|apply bD|refine bS ?_ GE411.out)|exact HB.out))))
     have n1_:=Am (blk_below (bB BK411.out) hb)
     have n2_:=Am (bT (by repeat (first|(with_reducible first|exact HB.out|apply bA|apply bN|apply bD|refine bS ?_ GE411.out)|exact HB.out)) hb)
     clear BK411
     clear HB
     have HO419:=n0_
     have BK411:=n1_
     have HB:=n2_
     clear n0_ n1_ n2_
     (try clear hb)
     (try clear hb2)
     (try clear hk)
     (try clear hi)
     (try clear ho0)
     obtain ⟨Ao18,co18,eo18⟩:=Kd.R_slice HO419.out
     (first|subst eo18|(injection eo18 with f1_ f2_ f3_;have f4_:=f1_.symm;have f5_:=f3_.symm;clear f1_ f2_ f3_;subst f4_;subst f5_))
     refine hK.out _ _ trivial (fun hHeld=>?_)
     clear hK K
     refine norm_ (a':=?_) ?_ ?_
     rotate_left
     ·show Act.put _ (some 28) _ = _
      simp only [Act.put,List.setIfInBounds_toArray,List.set_cons_zero,List.set_cons_succ,i64_w,i32_w]
      rfl
     refine pure_ (i:=8) (N:=some 29) (v:=?_) (a':=?_) #[true,true,true,true,true,true,true,true,true,false,false,false] rfl rfl (any_of HT_.out (by kernel_rfl)) (fun _ _ _ h=>h) (Or.inl ⟨by rfl,?_⟩) ?_ ?_
     rotate_left
     ·intro w'
      go_simp
      with_reducible rfl
     rotate_left
     ·simp only [Act.put,List.setIfInBounds_toArray,List.set_cons_zero,List.set_cons_succ,i64_w,i32_w]
      rfl
     refine pure_ (i:=9) (N:=some 30) (v:=?_) (a':=?_) #[true,true,true,true,true,true,true,true,true,true,false,false] rfl rfl (any_of HT_.out (by kernel_rfl)) (fun _ _ _ h=>h) (Or.inl ⟨by rfl,?_⟩) ?_ ?_
     rotate_left
     ·intro w'
      go_simp
      with_reducible rfl
     rotate_left
     ·simp only [Act.put,List.setIfInBounds_toArray,List.set_cons_zero,List.set_cons_succ,i64_w,i32_w]
      rfl
     refine one_ (i:=10) (N:=none) #[true,true,true,true,true,true,true,true,true,true,true,false] rfl rfl (one_of HT_.out (by kernel_rfl)) (by decide) (fun K hK=>?_)
     have hs17:w16.cell? ⟨gb411,0,none⟩ = some (.string (⟨#[]⟩:ByteArray)):=bM BK411.out 0 rfl
     have hfs17:=bZ BK411.out 0
     have hs19:w16.cell? ⟨gb411,1,none⟩ = some (.slice none 0 0):=bM BK411.out 1 rfl
     have hfs19:=bZ BK411.out 1
     have hs20:w16.cell? ⟨gb411,2,none⟩ = some (.bool false):=bM BK411.out 2 rfl
     have hfs20:=bZ BK411.out 2
     have hs21:w16.cell? ⟨gb411,3,none⟩ = some (.string (⟨#[]⟩:ByteArray)):=bM BK411.out 3 rfl
     have hfs21:=bZ BK411.out 3
     refine skip_ (w1:=?_) (by rfl) rfl ?_ ?_
     rotate_left
     ·go_simp
      rfl
     refine hK.out _ _ trivial (fun hHeld=>?_)
     clear hK K
     refine pure_ (i:=11) (N:=some 3) (v:=?_) (a':=?_) #[true,true,true,true,true,true,true,true,true,true,true,true] rfl rfl (any_of HT_.out (by kernel_rfl)) (fun _ _ _ h=>h) (Or.inl ⟨by rfl,?_⟩) ?_ ?_
     rotate_left
     ·intro w'
      go_simp
      with_reducible rfl
     rotate_left
     ·simp only [Act.put,List.setIfInBounds_toArray,List.set_cons_zero,List.set_cons_succ,i64_w,i32_w]
      rfl
     refine done_ (done_of HT_.out (by kernel_rfl)) ?_
     try go_wp2
     refine bodyPost_ret (results_ct rfl _ _ gb411 25 #[.string t416, .slice Ao18 t417.length co18, .bool t420, .string t421] (0,0) _ rfl (by refine bB ?_;apply bP;refine bB ?_;exact BK411.out) Tryd.underlying25 rfl (by kernel_rfl)) rfl ?_
     exact ⟨_,by first|rfl|(simp <;> rfl)|(simp [*] <;> rfl),by (with_reducible repeat (first|apply rA|apply rN|apply rD));exact Kd.R_mono (Kd.R_far (p:=⟨gb411,3,none⟩) (Kd.R_far (p:=⟨gb411,2,none⟩) (Kd.R_far (p:=⟨gb411,1,none⟩) (Kd.R_far (p:=⟨gb411,0,none⟩) (Kd.R_types HO419.out BK411.out (by decide)) (fun _ hk=>hk.2) (.string t416)) (fun _ hk=>hk.2) (.slice Ao18 t417.length co18)) (fun _ hk=>hk.2) (.bool t420)) (fun _ hk=>hk.2) (.string t421)) (fun _ hk=>trivial),by repeat (first|(with_reducible first|exact HB.out|apply bA|apply bN|apply bD|refine bS ?_ GE411.out)|exact HB.out)⟩
    ·rw [if_neg c7] at H
     exact absurd H (by simp)
   ·rw [if_neg c6] at H
    exact absurd H (by simp)
  ·rw [if_neg c5] at H
   have c5b0:decide (t414 < 0) = false:=decide_eq_false c5
   clear c5
   by_cases c22:0 ≤ t414
   ·rw [if_pos c22] at H
    have c22b0:=eq_true c22
    have c22b1:=decide_eq_true c22
    clear c22
    by_cases c23:t414 ≤ (t412.size:Int)
    ·rw [if_pos c23] at H
     have c23b0:=eq_true c23
     have c23b1:=decide_eq_true c23
     clear c23
     replace H:=bI H
     obtain ⟨t423,A240,H⟩:=H
     replace H:((impl_readWay.f k t423 ([]:List ByteArray) (t412.extract (t414:Int).toNat t412.size)).bind fun bt424=>(some (bt424.1,bt424.2.1,bt424.2.2.1,bt424.2.2.2.1,bt424.2.2.2.2))) = some (r1,r2,r3,r4,r5):=H
     have A24:=Am A240
     clear A240
     have c25b0:=eq_true (oD (by assumption):0 ≤ t414)
     have c26b0:=eq_true (oD (by assumption):t414 ≤ (t412.size:Int))
     replace H:=bI H
     obtain ⟨⟨t424,t425,t428,t429,t430⟩,A270,H⟩:=H
     replace H:(some (t424,t425,t428,t429,t430)) = some (r1,r2,r3,r4,r5):=H
     have A27:=Am A270
     clear A270
     simp only [Option.some.injEq,Prod.mk.injEq] at H
     obtain ⟨rfl,rfl,rfl,rfl,rfl⟩:=H
     go_enter Tryd.func38,Tryd.ntmps38
     try go_wp2_with (first|((with_reducible refine gate_dst (N:=2) rfl ?_);refine box_event ?hg (N:=2) ?hd (cs:=#[.string (⟨#[]⟩:ByteArray), .slice none 0 0, .bool false, .string (⟨#[]⟩:ByteArray)]) (t:=25) ?hr ?_;(case hd=>rfl);(case hg=>rfl);(case hr=>(go_simp <;> rfl));intro gb411 hg w28 hbox hb;have n0_:=Am (bT (by repeat (first|(with_reducible first|exact HB.out|apply bA|apply bN|apply bD)|exact HB.out)) hb);have n1_:=Am (hbox);have n2_:=Am ((by rw [hg];exact (bU (by repeat (first|(with_reducible first|exact HB.out|apply bA|apply bN|apply bD)|exact HB.out))):w.heap.size ≤ gb411));have n3_:=n2_;clear HB;have HB:=n0_;have BK411:=n1_;have GW411:=n2_;have GE411:=n3_;clear n0_ n1_ n2_ n3_ hb hbox hg)|((with_reducible refine gate_callee (f:=64) rfl ?_);refine goesL_ (some 9) rfl rfl Tryd.func64 (by kernel_rfl) rfl #[.string a0, .string (⟨#[47,47]⟩:ByteArray)] rfl (by (try simp only [List.map_toArray,List.map_cons,List.map_nil]);first|done|rfl|(simp only [List.length_drop,List.length_take];rfl)|(simp [Act.eval,Array.getD_eq_getD_getElem?];done)) ?_;(with_reducible refine (strings_CutPrefix.calls a0 (⟨#[47,47]⟩:ByteArray) t412 true _ A2.out).mono ?_);rintro e w' ⟨rfl,⟨nd,rfl⟩⟩;refine ⟨_,rfl,?_⟩;(try (rw [drewN_self w28];generalize hq_:World.drewN w28 _ = w28;have n0_:Aside0 (w28.heap[gb411]? = some (.cells #[.string (⟨#[]⟩:ByteArray), .slice none 0 0, .bool false, .string (⟨#[]⟩:ByteArray)] 25 (0,0))):=⟨by rw [← hq_];exact (bB BK411.out)⟩;have n1_:Aside0 (Below w.heap.size w w28):=⟨by rw [← hq_];exact (by repeat (first|(with_reducible first|exact HB.out|apply bA|apply bN|apply bD|refine bS ?_ GE411.out)|exact HB.out))⟩;clear BK411 HB hq_;have BK411:=n0_;have HB:=n1_;clear n0_ n1_)))|((with_reducible refine gate_callee (f:=65) rfl ?_);refine goesL_ (some 16) rfl rfl Tryd.func65 (by kernel_rfl) rfl #[.string t412, .string (⟨#[47,63]⟩:ByteArray)] rfl (by (try simp only [List.map_toArray,List.map_cons,List.map_nil]);first|done|rfl|(simp only [List.length_drop,List.length_take];rfl)|(simp [Act.eval,Array.getD_eq_getD_getElem?];done)) ?_;(with_reducible refine (strings_IndexAny.calls t412 (⟨#[47,63]⟩:ByteArray) t414 _ A4.out).mono ?_);rintro e w29 ⟨rfl,hb⟩;refine ⟨_,rfl,?_⟩;have n0_:=Am (blk_below (bB BK411.out) hb);have n1_:=Am (bT (by repeat (first|(with_reducible first|exact HB.out|apply bA|apply bN|apply bD|refine bS ?_ GE411.out)|exact HB.out)) hb);clear BK411 HB;have BK411:=n0_;have HB:=n1_;clear n0_ n1_;(try clear hb)))
     have n0_:=Am (blk_drew BK411.out)
     have n1_:=Am (below_drew1 HB.out)
     clear BK411
     clear HB
     have BK411:=n0_
     have HB:=n1_
     clear n0_ n1_
     refine start_ (n:=12) (S:=fun w'=>True) (ds:=[]) #[false,false,false,false,false,false,false,false,false,false,false,false] (by kernel_rfl) rfl rfl trivial (fun hHeld=>?_);refine with_tabW impl_readWhole.tab7 impl_readWhole.bits7 (fun HT_ HW_=>?_)
     generalize w29.drew = w30 at BK411 HB hHeld ⊢
     refine pure_ (i:=0) (N:=some 21) (v:=?_) (a':=?_) #[true,false,false,false,false,false,false,false,false,false,false,false] rfl rfl (any_of HT_.out (by kernel_rfl)) (fun _ _ _ h=>h) (Or.inl ⟨by rfl,?_⟩) ?_ ?_
     rotate_left
     ·intro w'
      go_simp
      with_reducible rfl
     rotate_left
     ·simp only [Act.put,List.setIfInBounds_toArray,List.set_cons_zero,List.set_cons_succ,i64_w,i32_w]
      rfl
     refine pure_ (i:=1) (N:=some 22) (v:=?_) (a':=?_) #[true,true,false,false,false,false,false,false,false,false,false,false] rfl rfl (any_of HT_.out (by kernel_rfl)) (fun _ _ _ h=>h) (Or.inl ⟨by rfl,?_⟩) ?_ ?_
     rotate_left
     ·intro w'
      go_simp
      with_reducible rfl
     rotate_left
     ·simp only [Act.put,List.setIfInBounds_toArray,List.set_cons_zero,List.set_cons_succ,i64_w,i32_w]
      rfl
     refine pure_ (i:=2) (N:=some 23) (v:=?_) (a':=?_) #[true,true,true,false,false,false,false,false,false,false,false,false] rfl rfl (any_of HT_.out (by kernel_rfl)) (fun _ _ _ h=>h) (Or.inl ⟨by rfl,?_⟩) ?_ ?_
     rotate_left
     ·intro w'
      go_simp
      with_reducible rfl
     rotate_left
     ·simp only [Act.put,List.setIfInBounds_toArray,List.set_cons_zero,List.set_cons_succ,i64_w,i32_w]
      rfl
     refine pure_ (i:=4) (N:=some 25) (v:=?_) (a':=?_) #[true,true,true,false,true,false,false,false,false,false,false,false] rfl rfl (any_of HT_.out (by kernel_rfl)) (fun _ _ _ h=>h) (Or.inl ⟨by rfl,?_⟩) ?_ ?_
     rotate_left
     ·intro w'
      go_simp
      with_reducible rfl
     rotate_left
     ·simp only [Act.put,List.setIfInBounds_toArray,List.set_cons_zero,List.set_cons_succ,i64_w,i32_w]
      rfl
     refine pure_ (i:=5) (N:=some 26) (v:=?_) (a':=?_) #[true,true,true,false,true,true,false,false,false,false,false,false] rfl rfl (any_of HT_.out (by kernel_rfl)) (fun _ _ _ h=>h) (Or.inl ⟨by rfl,?_⟩) ?_ ?_
     rotate_left
     ·intro w'
      go_simp
      with_reducible rfl
     rotate_left
     ·simp only [Act.put,List.setIfInBounds_toArray,List.set_cons_zero,List.set_cons_succ,i64_w,i32_w]
      rfl
     refine pure_ (i:=6) (N:=some 27) (v:=?_) (a':=?_) #[true,true,true,false,true,true,true,false,false,false,false,false] rfl rfl (any_of HT_.out (by kernel_rfl)) (fun _ _ _ h=>h) (Or.inl ⟨by rfl,?_⟩) ?_ ?_
     rotate_left
     ·intro w'
      go_simp
      with_reducible rfl
     rotate_left
     ·simp only [Act.put,List.setIfInBounds_toArray,List.set_cons_zero,List.set_cons_succ,i64_w,i32_w]
      rfl
     refine one_ (i:=3) (N:=some 24) #[true,true,true,true,true,true,true,false,false,false,false,false] rfl rfl (one_of HT_.out (by kernel_rfl)) (by decide) (fun K hK=>?_)
     refine goes_ Tryd.func66 (by kernel_rfl) rfl #[.string (t412.extract 0 (t414:Int).toNat)] (by rfl) rfl rfl (by (try simp only [List.map_toArray,List.map_cons,List.map_nil]);first|done|rfl|(simp only [List.length_drop,List.length_take];rfl)|(simp [Act.eval,Array.getD_eq_getD_getElem?];done)) ?_
     with_reducible refine (impl_smallLetters.calls (t412.extract 0 (t414:Int).toNat) t423 _ A24.out).mono ?_
     rintro e w31 ⟨rfl,hb⟩
     refine ⟨_,rfl,?_⟩
     have n0_:=Am (blk_below (bB BK411.out) hb)
     have n1_:=Am (bT (by repeat (first|(with_reducible first|exact HB.out|apply bA|apply bN|apply bD|refine bS ?_ GE411.out)|exact HB.out)) hb)
     clear BK411
     clear HB
     have BK411:=n0_
     have HB:=n1_
     clear n0_ n1_
     (try clear hb)
     (try clear hb2)
     (try clear hk)
     (try clear hi)
     refine hK.out _ _ trivial (fun hHeld=>?_)
     clear hK K
     refine norm_ (a':=?_) ?_ ?_
     rotate_left
     ·show Act.put _ (some 24) _ = _
      simp only [Act.put,List.setIfInBounds_toArray,List.set_cons_zero,List.set_cons_succ,i64_w,i32_w]
      rfl
     refine one_ (i:=7) (N:=some 28) #[true,true,true,true,true,true,true,true,false,false,false,false] rfl rfl (one_of HT_.out (by kernel_rfl)) (by decide) (fun K hK=>?_)
     refine goes_ Tryd.func40 (by kernel_rfl) rfl #[.string t423, .slice none 0 0, .string (t412.extract (t414:Int).toNat t412.size)] (by rfl) rfl rfl (by (try simp only [List.map_toArray,List.map_cons,List.map_nil]);first|done|rfl|(simp only [List.length_drop,List.length_take];rfl)|(simp [Act.eval,Array.getD_eq_getD_getElem?];done)) ?_
     refine (impl_readWay.calls k t423 _ _ ([]:List ByteArray) (t412.extract (t414:Int).toNat t412.size) t424 t425 t428 t429 t430 _ ?side1 ?side2 A27.out).mono ?_
     (case side1=>exact Kd.C_nil _ _)
     (case side2=>exact Nat.le_refl _)
     rintro e w32 ⟨v426,rfl,ho0,hb⟩
     refine ⟨_,rfl,?_⟩
     have n0_:=Am (Kd.R_lower ho0 (bU (by repeat (first|(with_reducible first|exact HB.out|apply bA|apply bN|apply bD|refine bS ?_ GE411.out)|exact HB.out))))
     have n1_:=Am (blk_below (bB BK411.out) hb)
     have n2_:=Am (bT (by repeat (first|(with_reducible first|exact HB.out|apply bA|apply bN|apply bD|refine bS ?_ GE411.out)|exact HB.out)) hb)
     clear BK411
     clear HB
     have HO427:=n0_
     have BK411:=n1_
     have HB:=n2_
     clear n0_ n1_ n2_
     (try clear hb)
     (try clear hb2)
     (try clear hk)
     (try clear hi)
     (try clear ho0)
     obtain ⟨Ao34,co34,eo34⟩:=Kd.R_slice HO427.out
     (first|subst eo34|(injection eo34 with f1_ f2_ f3_;have f4_:=f1_.symm;have f5_:=f3_.symm;clear f1_ f2_ f3_;subst f4_;subst f5_))
     refine hK.out _ _ trivial (fun hHeld=>?_)
     clear hK K
     refine norm_ (a':=?_) ?_ ?_
     rotate_left
     ·show Act.put _ (some 28) _ = _
      simp only [Act.put,List.setIfInBounds_toArray,List.set_cons_zero,List.set_cons_succ,i64_w,i32_w]
      rfl
     refine pure_ (i:=8) (N:=some 29) (v:=?_) (a':=?_) #[true,true,true,true,true,true,true,true,true,false,false,false] rfl rfl (any_of HT_.out (by kernel_rfl)) (fun _ _ _ h=>h) (Or.inl ⟨by rfl,?_⟩) ?_ ?_
     rotate_left
     ·intro w'
      go_simp
      with_reducible rfl
     rotate_left
     ·simp only [Act.put,List.setIfInBounds_toArray,List.set_cons_zero,List.set_cons_succ,i64_w,i32_w]
      rfl
     refine pure_ (i:=9) (N:=some 30) (v:=?_) (a':=?_) #[true,true,true,true,true,true,true,true,true,true,false,false] rfl rfl (any_of HT_.out (by kernel_rfl)) (fun _ _ _ h=>h) (Or.inl ⟨by rfl,?_⟩) ?_ ?_
     rotate_left
     ·intro w'
      go_simp
      with_reducible rfl
     rotate_left
     ·simp only [Act.put,List.setIfInBounds_toArray,List.set_cons_zero,List.set_cons_succ,i64_w,i32_w]
      rfl
     refine one_ (i:=10) (N:=none) #[true,true,true,true,true,true,true,true,true,true,true,false] rfl rfl (one_of HT_.out (by kernel_rfl)) (by decide) (fun K hK=>?_)
     have hs33:w32.cell? ⟨gb411,0,none⟩ = some (.string (⟨#[]⟩:ByteArray)):=bM BK411.out 0 rfl
     have hfs33:=bZ BK411.out 0
     have hs35:w32.cell? ⟨gb411,1,none⟩ = some (.slice none 0 0):=bM BK411.out 1 rfl
     have hfs35:=bZ BK411.out 1
     have hs36:w32.cell? ⟨gb411,2,none⟩ = some (.bool false):=bM BK411.out 2 rfl
     have hfs36:=bZ BK411.out 2
     have hs37:w32.cell? ⟨gb411,3,none⟩ = some (.string (⟨#[]⟩:ByteArray)):=bM BK411.out 3 rfl
     have hfs37:=bZ BK411.out 3
     refine skip_ (w1:=?_) (by rfl) rfl ?_ ?_
     rotate_left
     ·go_simp
      rfl
     refine hK.out _ _ trivial (fun hHeld=>?_)
     clear hK K
     refine pure_ (i:=11) (N:=some 3) (v:=?_) (a':=?_) #[true,true,true,true,true,true,true,true,true,true,true,true] rfl rfl (any_of HT_.out (by kernel_rfl)) (fun _ _ _ h=>h) (Or.inl ⟨by rfl,?_⟩) ?_ ?_
     rotate_left
     ·intro w'
      go_simp
      with_reducible rfl
     rotate_left
     ·simp only [Act.put,List.setIfInBounds_toArray,List.set_cons_zero,List.set_cons_succ,i64_w,i32_w]
      rfl
     refine done_ (done_of HT_.out (by kernel_rfl)) ?_
     try go_wp2
     refine bodyPost_ret (results_ct rfl _ _ gb411 25 #[.string t424, .slice Ao34 t425.length co34, .bool t428, .string t429] (0,0) _ rfl (by refine bB ?_;apply bP;refine bB ?_;exact BK411.out) Tryd.underlying25 rfl (by kernel_rfl)) rfl ?_
     exact ⟨_,by first|rfl|(simp <;> rfl)|(simp [*] <;> rfl),by (with_reducible repeat (first|apply rA|apply rN|apply rD));exact Kd.R_mono (Kd.R_far (p:=⟨gb411,3,none⟩) (Kd.R_far (p:=⟨gb411,2,none⟩) (Kd.R_far (p:=⟨gb411,1,none⟩) (Kd.R_far (p:=⟨gb411,0,none⟩) (Kd.R_types HO427.out BK411.out (by decide)) (fun _ hk=>hk.2) (.string t424)) (fun _ hk=>hk.2) (.slice Ao34 t425.length co34)) (fun _ hk=>hk.2) (.bool t428)) (fun _ hk=>hk.2) (.string t429)) (fun _ hk=>trivial),by repeat (first|(with_reducible first|exact HB.out|apply bA|apply bN|apply bD|refine bS ?_ GE411.out)|exact HB.out)⟩
    ·rw [if_neg c23] at H
     exact absurd H (by simp)
   ·rw [if_neg c22] at H
    exact absurd H (by simp)
 ·replace c3:=Bool.eq_false_iff.mpr c3
  subst c3
  have H1:(some ((⟨#[]⟩:ByteArray),([]:List ByteArray),false,(⟨#[]⟩:ByteArray),false)) = some (r1,r2,r3,r4,r5):=by rw [if_neg (show ¬ (false = true) by decide)] at H;exact H
  clear H
  have H:=H1
  clear H1
  simp only [Option.some.injEq,Prod.mk.injEq] at H
  obtain ⟨rfl,rfl,rfl,rfl,rfl⟩:=H
  go_enter Tryd.func38,Tryd.ntmps38
  go_wp2_with (first|((with_reducible refine gate_dst (N:=2) rfl ?_);refine box_event ?hg (N:=2) ?hd (cs:=#[.string (⟨#[]⟩:ByteArray), .slice none 0 0, .bool false, .string (⟨#[]⟩:ByteArray)]) (t:=25) ?hr ?_;(case hd=>rfl);(case hg=>rfl);(case hr=>(go_simp <;> rfl));intro gb411 hg w38 hbox hb;have n0_:=Am (bT (by repeat (first|(with_reducible first|exact HB.out|apply bA|apply bN|apply bD)|exact HB.out)) hb);have n1_:=Am (hbox);have n2_:=Am ((by rw [hg];exact (bU (by repeat (first|(with_reducible first|exact HB.out|apply bA|apply bN|apply bD)|exact HB.out))):w.heap.size ≤ gb411));have n3_:=n2_;clear HB;have HB:=n0_;have BK411:=n1_;have GW411:=n2_;have GE411:=n3_;clear n0_ n1_ n2_ n3_ hb hbox hg)|((with_reducible refine gate_callee (f:=64) rfl ?_);refine goesL_ (some 9) rfl rfl Tryd.func64 (by kernel_rfl) rfl #[.string a0, .string (⟨#[47,47]⟩:ByteArray)] rfl (by (try simp only [List.map_toArray,List.map_cons,List.map_nil]);first|done|rfl|(simp only [List.length_drop,List.length_take];rfl)|(simp [Act.eval,Array.getD_eq_getD_getElem?];done)) ?_;(with_reducible refine (strings_CutPrefix.calls a0 (⟨#[47,47]⟩:ByteArray) t412 false _ A2.out).mono ?_);rintro e w' ⟨rfl,⟨nd,rfl⟩⟩;refine ⟨_,rfl,?_⟩;(try (rw [drewN_self w38];generalize hq_:World.drewN w38 _ = w38;have n0_:Aside0 (w38.heap[gb411]? = some (.cells #[.string (⟨#[]⟩:ByteArray), .slice none 0 0, .bool false, .string (⟨#[]⟩:ByteArray)] 25 (0,0))):=⟨by rw [← hq_];exact (bB BK411.out)⟩;have n1_:Aside0 (Below w.heap.size w w38):=⟨by rw [← hq_];exact (by repeat (first|(with_reducible first|exact HB.out|apply bA|apply bN|apply bD|refine bS ?_ GE411.out)|exact HB.out))⟩;clear BK411 HB hq_;have BK411:=n0_;have HB:=n1_;clear n0_ n1_));have hcz39_0:w38.cell? ⟨gb411,0,none⟩ = some (.string (⟨#[]⟩:ByteArray)):=bM BK411.out 0 rfl;have hcz39_1:w38.cell? ⟨gb411,1,none⟩ = some (.slice none 0 0):=bM BK411.out 1 rfl;have hcz39_2:w38.cell? ⟨gb411,2,none⟩ = some (.bool false):=bM BK411.out 2 rfl;have hcz39_3:w38.cell? ⟨gb411,3,none⟩ = some (.string (⟨#[]⟩:ByteArray)):=bM BK411.out 3 rfl;have hfz39_0:=bZ BK411.out 0;have hfz39_1:=bZ BK411.out 1;have hfz39_2:=bZ BK411.out 2;have hfz39_3:=bZ BK411.out 3))
  refine bodyPost_ret (results_ct rfl _ _ gb411 25 #[.string (⟨#[]⟩:ByteArray), .slice none 0 0, .bool false, .string (⟨#[]⟩:ByteArray)] (0,0) _ rfl (by refine bB ?_;apply bP;refine bB ?_;exact BK411.out) Tryd.underlying25 rfl (by kernel_rfl)) rfl ?_
  exact ⟨_,by first|rfl|(simp <;> rfl)|(simp [*] <;> rfl),by first|exact Kd.R_nil _ _ _ _ _|exact Kd.N_nil _ _ _ _ _|exact Kd.V_nil _ _ _ _ _|exact Kd.Q_nil _ _ _ _ _|exact Kd.S_nil _ _ _ _ _,by repeat (first|(with_reducible first|exact HB.out|apply bA|apply bN|apply bD|refine bS ?_ GE411.out)|exact HB.out)⟩

end Go.Proofs.YtbnnamjaljohiaaDoor.P
