/- What the reference's cuts answer: at the first byte of a kind, and at each. Condition: texts of at most a hundred thousand bytes. -/
-- Cut down by a program of this session (wip/tools/prune.py) to what its claim can name.
import Derived.Test.YtochmlkladpfgaaDoorPx3
import Derived.Test.YtochmlkladpfgaaDoorByteP
namespace Go.Proofs.YtochmlkladpfgaaDoor.CutF
open Go Go.RowKit Go.Proofs.YtochmlkladpfgaaDoor.P Go.Proofs.YtochmlkladpfgaaDoor.Lib Go.Proofs.YtochmlkladpfgaaDoor.CutP Go.Proofs.YtochmlkladpfgaaDoorW.PrintWords Go.Proofs.YtochmlkladpfgaaDoorW.PrintLast
set_option linter.unusedVariables false
set_option linter.unusedSimpArgs false

theorem cut_loop (s:ByteArray) (c:Int) (hs:s.size ≤ 2000000) (d:Nat):∀ (i:Int),0 ≤ i → i ≤ s.size → (s.size:Int) - i ≤ d →
  ∃ r,Ev (fun k=>spec_l1Cut.l0 k s c i) r ∧ L r.1 = (L s).take i.toNat ++ (cutT c ((L s).drop i.toNat)).1 ∧ L r.2.1 = (cutT c ((L s).drop i.toNat)).2.1 ∧ r.2.2 = (cutT c ((L s).drop i.toNat)).2.2:=by
 have hL:=L_length s
 have hend:∀ (i:Int),i = s.size → ∃ r,Ev (fun k=>spec_l1Cut.l0 k s c i) r ∧ L r.1 = (L s).take i.toNat ++ (cutT c ((L s).drop i.toNat)).1 ∧ L r.2.1 = (cutT c ((L s).drop i.toNat)).2.1 ∧ r.2.2 = (cutT c ((L s).drop i.toNat)).2.2:=by
  intro i hi
  refine ⟨(s,(⟨#[]⟩:ByteArray),false),Ev.step (f:=fun _=>some (s,(⟨#[]⟩:ByteArray),false)) (fun k=>?_) (Ev.const rfl),?_⟩
  ·simp only [spec_l1Cut.l0];rw [if_neg (by omega)]
  ·rw [List.drop_of_length_le (by omega),List.take_of_length_le (by omega)]
   exact ⟨by simp [cutT],rfl,rfl⟩
 induction d with
 | zero=>intro i h0 h1 hd;exact hend i (by omega)
 | succ d ih =>
  intro i h0 h1 hd
  by_cases hlt:i < (s.size:Int)
  rotate_left
  ·exact hend i (by omega)
  obtain ⟨b,q,hbr⟩:=drop_lt (l:=L s) (i:=i.toNat) (by omega)
  have hb:bt s i = b:=bt_get hbr
  have hn:(L s).drop (i + 1).toNat = q:=by rw [show (i + 1).toNat = i.toNat + 1 by omega];exact drop_next hbr
  have w1:wrap64 (i + 1) = i + 1:=w64 (by omega) (by omega)
  rw [hbr]
  by_cases hc:b = c
  ·refine ⟨(s.extract 0 (i:Int).toNat,s.extract (i + 1).toNat s.size,true),Ev.step (f:=fun _=>some (s.extract 0 (i:Int).toNat,s.extract (i + 1).toNat s.size,true)) (fun k=>?_) (Ev.const rfl),?_⟩
   ·simp only [spec_l1Cut.l0]
    rw [if_pos hlt,if_pos h0,hb,if_pos hc,if_pos h1,w1,if_pos (by omega),if_pos (by omega)]
   ·simp only [cutT,if_pos hc,List.append_nil]
    refine ⟨by rw [L_extract,List.drop_zero],?_,trivial⟩
    rw [L_extract,← hL,List.take_length,hn]
  ·obtain ⟨r,hr,e1,e2,e3⟩:=ih (i + 1) (by omega) (by omega) (by omega)
   rw [hn] at e1 e2 e3
   refine ⟨r,Ev.step (f:=fun k=>spec_l1Cut.l0 k s c (i + 1)) (fun k=>?_) hr,?_⟩
   ·simp only [spec_l1Cut.l0]
    rw [if_pos hlt,if_pos h0,hb,if_neg hc,w1]
   ·simp only [cutT,if_neg hc]
    refine ⟨?_,e2,e3⟩
    rw [e1,show (i + 1).toNat = i.toNat + 1 by omega,List.take_succ_eq_append_getElem (by omega)]
    rw [List.drop_eq_getElem_cons (by omega)] at hbr
    injection hbr with hbr _
    rw [hbr];simp

theorem cut_ev {s:ByteArray} (c:Int) (hs:s.size ≤ 2000000):∃ r,Ev (fun k=>spec_l1Cut.f k s c) r ∧ L r.1 = (cutT c (L s)).1 ∧ L r.2.1 = (cutT c (L s)).2.1 ∧ r.2.2 = (cutT c (L s)).2.2:=by
 obtain ⟨r,hr,e1,e2,e3⟩:=cut_loop s c hs s.size 0 (by omega) (by omega) (by omega)
 exact ⟨r,by simpa [spec_l1Cut.f] using hr,by simpa using e1,by simpa using e2,by simpa using e3⟩

theorem cut_size {p:ByteArray} {r:ByteArray × ByteArray × Bool} (c:Int) (e1:L r.1 = (cutT c (L p)).1) (e2:L r.2.1 = (cutT c (L p)).2.1):r.1.size ≤ p.size ∧ r.2.1.size ≤ p.size:=by
 have h:=(cutT_eq c (L p)).1
 have h2:=(cutT_eq c (L p)).2
 have hl:=congrArg List.length h
 rw [L_length] at hl
 rw [← L_length r.1,← L_length r.2.1,e1,e2]
 rw [List.length_append] at hl
 cases hb:(cutT c (L p)).2.2 with
 | true =>
  rw [hb,if_pos rfl,List.length_cons] at hl
  omega
 | false =>
  rw [h2 hb]
  simp;omega

theorem split_loop (c:Int) (d:Nat):∀ (o:List ByteArray) (s:ByteArray),s.size ≤ d → s.size ≤ 100000 → o.length + s.size ≤ 200000 →
  ∃ r,Ev (fun k=>spec_l1Split.l0 k c o s true) r ∧ r.map L = o.map L ++ splitT c (L s):=by
 induction d with
 | zero =>
  intro o s hd hs ho
  obtain ⟨r,hr,e1,e2,e3⟩:=cut_ev (s:=s) c (by omega)
  have hL:L s = []:=List.eq_nil_of_length_eq_zero (by rw [L_length];omega)
  rw [hL] at e1 e2 e3
  refine ⟨o ++ [r.1],Ev.step (f:=fun k=>(spec_l1Cut.f k s c).bind fun bt=>if o.length < 8796093022208 then spec_l1Split.l0 k c (o ++ [bt.1]) bt.2.1 bt.2.2 else none) (fun k=>?_) (Ev.bind hr (Ev.pos (by omega) ?_)),?_⟩
  ·simp only [spec_l1Split.l0];rw [if_pos trivial]
  ·have e3':r.2.2 = false:=e3
   rw [e3']
   exact Ev.step (f:=fun _=>some (o ++ [r.1])) (fun k=>by simp only [spec_l1Split.l0];rw [if_neg (by simp)]) (Ev.const rfl)
  ·rw [hL,List.map_append]
   simp [e1,cutT,splitT]
 | succ d ih =>
  intro o s hd hs ho
  obtain ⟨r,hr,e1,e2,e3⟩:=cut_ev (s:=s) c (by omega)
  have hsz:=cut_size c e1 e2
  cases hb:r.2.2 with
  | false =>
   refine ⟨o ++ [r.1],Ev.step (f:=fun k=>(spec_l1Cut.f k s c).bind fun bt=>if o.length < 8796093022208 then spec_l1Split.l0 k c (o ++ [bt.1]) bt.2.1 bt.2.2 else none) (fun k=>?_) (Ev.bind hr (Ev.pos (by omega) ?_)),?_⟩
   ·simp only [spec_l1Split.l0];rw [if_pos trivial]
   ·rw [hb]
    exact Ev.step (f:=fun _=>some (o ++ [r.1])) (fun k=>by simp only [spec_l1Split.l0];rw [if_neg (by simp)]) (Ev.const rfl)
   ·rw [splitT_cut,← e3,hb,List.map_append]
    simp [e1]
  | true =>
   have hlt:=cutT_lt (c:=c) (p:=L s) (by rw [← e3];exact hb)
   rw [← e2,L_length,L_length] at hlt
   obtain ⟨r',hr',e'⟩:=ih (o ++ [r.1]) r.2.1 (by omega) (by omega) (by simp;omega)
   refine ⟨r',Ev.step (f:=fun k=>(spec_l1Cut.f k s c).bind fun bt=>if o.length < 8796093022208 then spec_l1Split.l0 k c (o ++ [bt.1]) bt.2.1 bt.2.2 else none) (fun k=>?_) (Ev.bind hr (Ev.pos (by omega) ?_)),?_⟩
   ·simp only [spec_l1Split.l0];rw [if_pos trivial]
   ·rw [hb];exact hr'
   ·rw [e',splitT_cut c (L s),← e3,hb,if_pos rfl,← e1,← e2]
    simp

theorem split_ev {s:ByteArray} (c:Int) (hs:s.size ≤ 100000):∃ r,Ev (fun k=>spec_l1Split.f k s c) r ∧ r.map L = splitT c (L s):=by
 obtain ⟨r,hr,e⟩:=split_loop c s.size [] s (Nat.le_refl _) hs (by simp;omega)
 exact ⟨r,by simpa [spec_l1Split.f] using hr,by simpa using e⟩

end Go.Proofs.YtochmlkladpfgaaDoor.CutF
