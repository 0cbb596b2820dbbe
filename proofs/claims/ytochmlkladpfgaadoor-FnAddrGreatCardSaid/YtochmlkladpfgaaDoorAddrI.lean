/- What the functions of the program on an address answer: the same functions of lists as the reference's. Condition: texts of at most ten million bytes. -/
-- Cut down by a program of this session (wip/tools/prune.py) to what its claim can name.
import Derived.Test.YtochmlkladpfgaaDoorPx4
import Derived.Test.YtochmlkladpfgaaDoorPx5
import Derived.Test.YtochmlkladpfgaaDoorAddrS
import Derived.Test.YtochmlkladpfgaaDoorEscI
namespace Go.Proofs.YtochmlkladpfgaaDoor.AddrI
open Go hiding stepT
open Go.RowKit Go.Proofs.YtochmlkladpfgaaDoor.P Go.Proofs.YtochmlkladpfgaaDoor.Lib Go.Proofs.YtochmlkladpfgaaDoor.CutP Go.Proofs.YtochmlkladpfgaaDoor.AddrP Go.Proofs.YtochmlkladpfgaaDoor.AddrF Go.Proofs.YtochmlkladpfgaaDoorW.PrintWords Go.Proofs.YtochmlkladpfgaaDoorW.PrintLast
open Go.Proofs.YtochmlkladpfgaaDoor.EscP (escN)
set_option linter.unusedVariables false
set_option linter.unusedSimpArgs false

theorem small_loop (s:ByteArray) (hs:s.size ≤ 10000000) (d:Nat):∀ i:Int,0 ≤ i → i ≤ s.size → (s.size:Int) - i ≤ d →
  Ev (fun k=>impl_allSmallLetters.l0 k s i) (((L s).drop i.toNat).all smallB):=by
 have hL:=L_length s
 have hend:∀ i:Int,i = s.size → Ev (fun k=>impl_allSmallLetters.l0 k s i) (((L s).drop i.toNat).all smallB):=by
  intro i hi
  rw [List.drop_of_length_le (by omega)]
  exact Ev.step (f:=fun _=>some true) (fun k=>by simp only [impl_allSmallLetters.l0];rw [if_neg (by omega)]) (Ev.const rfl)
 induction d with
 | zero=>intro i h0 h1 hd;exact hend i (by omega)
 | succ d ih =>
  intro i h0 h1 hd
  by_cases hlt:i < (s.size:Int)
  rotate_left
  ·exact hend i (by omega)
  obtain ⟨b,q,hbr⟩:=drop_lt (l:=L s) (i:=i.toNat) (by omega)
  have hb:bt s i = b:=bt_get hbr
  have hn:(L s).drop (i + 1).toNat = q:=by rw [show (i + 1).toNat = i.toNat + 1 by omega];exact drop_next hbr
  have I:=ih (i + 1) (by omega) (by omega) (by omega)
  rw [hn] at I
  have w1:wrap64 (i + 1) = i + 1:=w64 (by omega) (by omega)
  rw [hbr,List.all_cons]
  by_cases c1:b < 97
  ·have e:smallB b = false:=by unfold smallB;rw [decide_eq_false (show ¬ 97 ≤ b by omega),Bool.false_and]
   rw [e,Bool.false_and]
   exact Ev.step (f:=fun _=>some false) (fun k=>by simp only [impl_allSmallLetters.l0];rw [if_pos hlt,if_pos h0,hb,if_pos c1]) (Ev.const rfl)
  ·by_cases c2:b > 122
   ·have e:smallB b = false:=by unfold smallB;rw [decide_eq_false (show ¬ b ≤ 122 by omega),Bool.and_false]
    rw [e,Bool.false_and]
    exact Ev.step (f:=fun _=>some false) (fun k=>by simp only [impl_allSmallLetters.l0];rw [if_pos hlt,if_pos h0,hb,if_neg c1,if_pos c2]) (Ev.const rfl)
   ·have e:smallB b = true:=by unfold smallB;rw [decide_eq_true (show 97 ≤ b by omega),decide_eq_true (show b ≤ 122 by omega)];rfl
    rw [e,Bool.true_and]
    exact Ev.step (fun k=>by simp only [impl_allSmallLetters.l0];rw [if_pos hlt,if_pos h0,hb,if_neg c1,if_neg c2,w1]) I
theorem house_ev (s:ByteArray):Ev (fun k=>impl_isHouse.f k s) (houseOk (L s)):=by
 unfold impl_isHouse.f houseOk
 rw [L_length]
 by_cases h1:(s.size:Int) ≥ 1
 ·refine Ev.pos h1 ?_
  rw [decide_eq_true (show 1 ≤ s.size by omega),Bool.true_and]
  by_cases h2:(s.size:Int) ≤ 5
  ·refine Ev.pos h2 ?_
   rw [decide_eq_true (show s.size ≤ 5 by omega),Bool.true_and]
   have:=small_loop s (by omega) s.size 0 (by omega) (by omega) (by omega)
   rw [Int.toNat_zero,List.drop_zero] at this
   exact Ev.bind this (Ev.const rfl)
  ·rw [decide_eq_false (show ¬ s.size ≤ 5 by omega),Bool.false_and]
   exact Ev.neg h2 (Ev.const rfl)
 ·rw [decide_eq_false (show ¬ 1 ≤ s.size by omega),Bool.false_and,Bool.false_and]
  exact Ev.neg h1 (Ev.const rfl)
theorem norm_ev (s:ByteArray):Ev (fun k=>impl_isNormal.f k s) (norm (L s)):=by
 obtain ⟨r,hr,hn⟩:=EscI.impl_ev s
 unfold impl_isNormal.f
 refine Ev.bind hr ?_
 unfold EscF.IsNorm at hn
 unfold norm
 cases he:escN (L s) with
 | none =>
  rw [he] at hn
  subst hn
  exact Ev.neg (by simp) (Ev.const (by simp))
 | some t =>
  rw [he] at hn
  refine Ev.pos hn.1 (Ev.const ?_)
  rw [beq_toList,hn.2];simp

/-! the way as it is written -/
theorem lib_join (l:List ByteArray):(Go.Lib.join (l.map (·.data.toList)) [47]).map (fun b:UInt8=>(b.toNat:Int)) = joinS (l.map L):=by
 cases l with
 | nil=>rfl
 | cons p t =>
  rw [List.map_cons,Go.Lib.join_cons,List.map_cons,joinS_rest,List.map_append]
  congr 1
  unfold Go.Lib.joinTail restS
  induction t with
  | nil=>rfl
  | cons q t ih =>
   rw [List.map_cons,List.map_cons,List.flatten_cons,List.map_append,ih,List.map_cons,List.flatMap_cons]
   rfl
theorem join_len (l:List ByteArray):(joinS (l.map L)).length ≤ tot l:=by
 cases l with
 | nil=>simp [joinS]
 | cons p t =>
  rw [List.map_cons,joinS_rest,List.length_append,L_length]
  have:(restS (t.map L)).length = tot t:=by
   induction t with
   | nil=>rfl
   | cons q t ih=>simp [restS,tot,L_length] at ih ⊢;omega
  rw [this];simp [tot]
theorem join_ev {l:List ByteArray} (hl:tot l ≤ 10000000):∃ t,strings_Join.f l (⟨#[47]⟩:ByteArray) = some t ∧ L t = joinS (l.map L) ∧ t.size ≤ 10000000:=by
 have hll:=len_tot l
 have hj:=lib_join l
 have hjl:=join_len l
 have e:(Go.Lib.join (l.map (·.data.toList)) (⟨#[47]⟩:ByteArray).data.toList).length = (joinS (l.map L)).length:=by rw [← hj,List.length_map]
 unfold strings_Join.f
 rw [if_pos ⟨by omega,by omega⟩]
 refine ⟨_,rfl,?_,?_⟩
 ·rw [L_def];exact hj
 ·rw [← L_length,L_def]
  show (List.map _ (Go.Lib.join (l.map (·.data.toList)) [47])).length ≤ _
  rw [hj];omega
theorem path_ev {h:ByteArray} {l:List ByteArray} {b:Bool} {q:ByteArray} (hl:tot l ≤ 10000000) (hq:q.size ≤ 10000000) :
  ∃ r,impl_writePath.f h l b q = some r ∧ L r = pathT (adOf h l b q) ∧ r.size ≤ 100000000:=by
 obtain ⟨t,ht,e,hs⟩:=join_ev hl
 have h1:(⟨#[47]⟩:ByteArray).size = 1:=rfl
 have h2:(⟨#[63]⟩:ByteArray).size = 1:=rfl
 have hL1:L (⟨#[47]⟩:ByteArray) = [47]:=rfl
 have hL2:L (⟨#[63]⟩:ByteArray) = [63]:=rfl
 unfold impl_writePath.f pathT askT adOf
 rw [ht,Option.bind_some,if_pos (by omega)]
 cases b with
 | true =>
  rw [if_pos rfl,if_pos (by omega),if_pos (by rw [ByteArray.size_append,ByteArray.size_append,h1,h2];omega)]
  refine ⟨_,rfl,?_,?_⟩
  ·rw [L_append,L_append,L_append,e,hL1,hL2];simp
  ·simp only [ByteArray.size_append,h1,h2];omega
 | false =>
  rw [if_neg Bool.false_ne_true]
  refine ⟨_,rfl,?_,?_⟩
  ·rw [L_append,e,hL1];simp
  ·simp only [ByteArray.size_append,h1];omega
theorem text_ev {h:ByteArray} {l:List ByteArray} {b:Bool} {q:ByteArray} (hh:h.size ≤ 10000000) (hl:tot l ≤ 10000000) (hq:q.size ≤ 10000000) :
  ∃ r,impl_writeAddr.f h l b q = some r ∧ L r = textT (adOf h l b q):=by
 obtain ⟨t,ht,e,hs⟩:=path_ev (h:=h) (b:=b) hl hq
 have h1:(⟨#[47,47]⟩:ByteArray).size = 2:=rfl
 have hL1:L (⟨#[47,47]⟩:ByteArray) = [47,47]:=rfl
 unfold impl_writeAddr.f
 rw [if_pos (by omega),ht,Option.bind_some,if_pos (by rw [ByteArray.size_append,h1];omega)]
 refine ⟨_,rfl,?_⟩
 rw [L_append,L_append,e,hL1]
 simp [textT,adOf]

/-! the check -/
theorem ok_loop (h:ByteArray) (l:List ByteArray) (b:Bool) (q:ByteArray) (hh:h.size ≤ 10000000) (hl:tot l ≤ 10000000) (hq:q.size ≤ 10000000) (d:Nat):∀ i:Int,0 ≤ i → i ≤ l.length → (l.length:Int) - i ≤ d →
  Ev (fun k=>impl_AddrOk.l0 k l (l.length:Int) i h l b q) (((l.drop i.toNat).map L).all (fun p=>wayT p && norm p) && (norm (L q) && ((b || decide (L q = [])) && decide ((textT (adOf h l b q)).length ≤ 60)))):=by
 have hll:=len_tot l
 have hend:∀ i:Int,i = l.length → Ev (fun k=>impl_AddrOk.l0 k l (l.length:Int) i h l b q) (((l.drop i.toNat).map L).all (fun p=>wayT p && norm p) && (norm (L q) && ((b || decide (L q = [])) && decide ((textT (adOf h l b q)).length ≤ 60)))):=by
  intro i hi
  obtain ⟨r,hr,e⟩:=text_ev (b:=b) hh hl hq
  have hsz:decide ((r.size:Int) ≤ 60) = decide ((textT (adOf h l b q)).length ≤ 60):=by
   rw [← e,L_length,decide_eq_decide];omega
  rw [List.drop_of_length_le (by omega),List.map_nil,List.all_nil,Bool.true_and]
  refine Ev.step (f:=fun k=>(impl_isNormal.f k q).bind fun t167=>(if t167 = true then (if b = true then ((impl_writeAddr.f h l b q).bind fun t168=>(some (decide ((t168.size:Int) ≤ 60)))) else (if q.toList = ([]:List UInt8) then ((impl_writeAddr.f h l b q).bind fun t169=>(some (decide ((t169.size:Int) ≤ 60)))) else (some false))) else (some false))) (fun k=>?_) (Ev.bind (norm_ev q) ?_)
  ·simp only [impl_AddrOk.l0];rw [if_neg (by omega)]
  ·cases norm (L q) with
   | false=>rw [Bool.false_and];exact Ev.neg Bool.false_ne_true (Ev.const rfl)
   | true =>
    rw [Bool.true_and]
    refine Ev.pos rfl ?_
    cases b with
    | true =>
     rw [Bool.true_or,Bool.true_and]
     refine Ev.pos rfl (Ev.const ?_)
     rw [hr,Option.bind_some,hsz]
    | false =>
     refine Ev.neg Bool.false_ne_true ?_
     rw [Bool.false_or]
     by_cases cq:L q = []
     ·rw [decide_eq_true cq,Bool.true_and]
      refine Ev.pos ((toList_nil q).mpr cq) (Ev.const ?_)
      rw [hr,Option.bind_some,hsz]
     ·rw [decide_eq_false cq,Bool.false_and]
      exact Ev.neg (fun h=>cq ((toList_nil q).mp h)) (Ev.const rfl)
 induction d with
 | zero=>intro i h0 h1 hd;exact hend i (by omega)
 | succ d ih =>
  intro i h0 h1 hd
  by_cases hlt:i < (l.length:Int)
  rotate_left
  ·exact hend i (by omega)
  obtain ⟨p,t,hpt⟩:=drop_lt (l:=l) (i:=i.toNat) (by omega)
  have hp:rdOf ByteArray.empty l i = p:=rdOf_get hpt
  have hn:l.drop (i + 1).toNat = t:=by rw [show (i + 1).toNat = i.toNat + 1 by omega];exact drop_next' hpt
  have I:=ih (i + 1) (by omega) (by omega) (by omega)
  rw [hn] at I
  have w1:wrap64 (i + 1) = i + 1:=w64 (by omega) (by omega)
  rw [hpt,List.map_cons,List.all_cons]
  refine Ev.step (f:=fun k=>(if p.toList = ([]:List UInt8) then some false else if p.toList = ([46]:List UInt8) then some false else if p.toList = ([46,46]:List UInt8) then some false else (impl_isNormal.f k p).bind fun u=>if u = true then impl_AddrOk.l0 k l (l.length:Int) (i + 1) h l b q else some false)) (fun k=>?_) ?_
  ·simp only [impl_AddrOk.l0];rw [if_pos hlt,if_pos h0,if_pos hlt,hp,w1]
  ·by_cases c1:L p = []
   ·exact Ev.pos ((toList_nil p).mpr c1) (Ev.const (by simp [wayT,idleT,c1]))
   refine Ev.neg (fun h=>c1 ((toList_nil p).mp h)) ?_
   by_cases c2:L p = [46]
   ·exact Ev.pos ((toList_dot p).mpr c2) (Ev.const (by simp [wayT,idleT,c2]))
   refine Ev.neg (fun h=>c2 ((toList_dot p).mp h)) ?_
   by_cases c3:L p = [46,46]
   ·exact Ev.pos ((toList_dots p).mpr c3) (Ev.const (by simp [wayT,upT,c3]))
   refine Ev.neg (fun h=>c3 ((toList_dots p).mp h)) ?_
   have e:wayT (L p) = true:=by simp [wayT,idleT,upT,c1,c2,c3]
   rw [e,Bool.true_and]
   refine Ev.bind (norm_ev p) ?_
   cases norm (L p) with
   | false=>rw [Bool.false_and,Bool.false_and];exact Ev.neg Bool.false_ne_true (Ev.const rfl)
   | true=>rw [Bool.true_and];exact Ev.pos rfl I
theorem ok_ev {h:ByteArray} {l:List ByteArray} {b:Bool} {q:ByteArray} (hh:h.size ≤ 10000000) (hl:tot l ≤ 10000000) (hq:q.size ≤ 10000000) :
  Ev (fun k=>impl_AddrOk.f k h l b q) (ok (adOf h l b q)):=by
 have hll:=len_tot l
 have far:Ev (fun k=>impl_AddrOk.j0 k true h l b q) false:=Ev.step (f:=fun _=>some false) (fun k=>by simp only [impl_AddrOk.j0];rw [if_pos trivial]) (Ev.const rfl)
 have near:Ev (fun k=>impl_AddrOk.j0 k false h l b q) ((l.map L).all (fun p=>wayT p && norm p) && (norm (L q) && ((b || decide (L q = [])) && decide ((textT (adOf h l b q)).length ≤ 60)))):=by
  have:=ok_loop h l b q hh hl hq l.length 0 (by omega) (by omega) (by omega)
  rw [Int.toNat_zero,List.drop_zero] at this
  exact Ev.step (fun k=>by simp only [impl_AddrOk.j0];rw [if_neg (by simp)]) this
 have e:ok (adOf h l b q) = (houseOk (L h) && (decide (l.length ≤ 5) && ((l.map L).all (fun p=>wayT p && norm p) && (norm (L q) && ((b || decide (L q = [])) && decide ((textT (adOf h l b q)).length ≤ 60)))))):=by
  unfold ok
  simp only [adOf,List.length_map]
  ac_rfl
 rw [e]
 unfold impl_AddrOk.f
 refine Ev.bind (house_ev h) ?_
 cases houseOk (L h) with
 | false=>rw [Bool.false_and];exact Ev.neg Bool.false_ne_true far
 | true =>
  rw [Bool.true_and]
  refine Ev.pos rfl ?_
  by_cases c:(l.length:Int) > 5
  ·rw [decide_eq_false (show ¬ l.length ≤ 5 by omega),Bool.false_and,decide_eq_true c];exact far
  ·rw [decide_eq_true (show l.length ≤ 5 by omega),Bool.true_and,decide_eq_false c];exact near
end Go.Proofs.YtochmlkladpfgaaDoor.AddrI
