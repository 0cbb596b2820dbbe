/- Groups, as the laws' helpers weigh, copy and compare them. (The numbers of the types are this seat's.) Condition: none. -/
-- Cut down by a program of this session (wip/tools/prune.py) to what its claim can name.
import Derived.Test.YtheakfegchndcaaPx0
import Derived.Test.YtheakfegchndcaaPx1
import Derived.Test.YtheakfegchndcaaHelpR
namespace Go.Proofs.Ytheakfegchndcaa.HelpG
open Go hiding stepT
open Go.RowKit Go.Proofs.Ytheakfegchndcaa.P Go.Proofs.Ytheakfegchndcaa.Lib Go.Proofs.Ytheakfegchndcaa.NoticeF Go.Proofs.Ytheakfegchndcaa.HelpR Go.Proofs.YtheakfegchndcaaW.PrintWords Go.Proofs.YtheakfegchndcaaW.PrintLast
set_option linter.unusedVariables false
set_option linter.unusedSimpArgs false

/-- A group as Go's memory may hold it. -/
def Fits (g:S65):Prop:=(g.f0.length ≤ maxLen ∧ ∀ y ∈ g.f0,y.size ≤ maxLen) ∧ (g.f1.length ≤ maxLen ∧ ∀ y ∈ g.f1,True ∧ y.f1.size ≤ maxLen) ∧ (Lit.int .i64 g.f2).wf = true
/-- Not many of each. -/
def FewG (g:S65):Prop:=g.f0.length ≤ 1048576 ∧ g.f1.length ≤ 1048576 ∧ ∀ s ∈ g.f0,s.size ≤ 1048576
theorem rd65 {x:List S65} {i:Int} {g:S65} {t:List S65} (h:x.drop i.toNat = g :: t):rd_T65 x i = g:=by
 unfold rd_T65
 have hlt:i.toNat < x.length:=by
  rcases Nat.lt_or_ge i.toNat x.length with h'|h'
  ·exact h'
  ·rw [List.drop_of_length_le h'] at h;cases h
 rw [List.getD_eq_getElem?_getD,List.getElem?_eq_getElem hlt]
 rw [List.drop_eq_getElem_cons hlt] at h
 injection h with h _
theorem sum_mem {s:ByteArray} {l:List ByteArray} (h:s ∈ l):s.size ≤ ExS.sum l:=by
 induction l with
 | nil=>cases h
 | cons p t ih =>
  rw [ExS.sum_cons]
  rcases List.mem_cons.mp h with rfl|h
  ·omega
  ·have:=ih h;omega
theorem sz_one {g:S65} (hf:Fits g) {m:Int} (hm0:0 ≤ m) (hm1:m ≤ 1048576):∃ r,Ev (fun k=>laws_szGroup.f k g.f0 g.f1 g.f2 m) r ∧ (¬ r < 0 → 0 ≤ r ∧ r ≤ m ∧ FewG g):=by
 obtain ⟨⟨a1,a2⟩,⟨b1,b2⟩,_⟩:=hf
 obtain ⟨r,hr,hb⟩:=ExS.sz_ev a1 a2 hm0 hm1
 unfold laws_szGroup.f
 by_cases h:r < 0
 ·exact ⟨-1,Ev.bind hr (Ev.pos h (Ev.const rfl)),fun h=>absurd (by decide) h⟩
 obtain ⟨h0,he⟩:=hb h
 obtain ⟨s,hs,hc⟩:=HelpR.sz_ev b1 b2 (m:=r) h0 (by omega)
 by_cases h2:s < 0
 ·exact ⟨-1,Ev.bind hr (Ev.neg h (Ev.bind hs (Ev.pos h2 (Ev.const rfl)))),fun h=>absurd (by decide) h⟩
 obtain ⟨c1,c2⟩:=hc h2
 refine ⟨s,Ev.bind hr (Ev.neg h (Ev.bind hs (Ev.neg h2 (Ev.const rfl)))),fun _=>⟨by omega,by omega,by omega,c2,?_⟩⟩
 intro s hs
 have:=sum_mem hs
 omega
theorem sz_loop (x:List S65) (hx:x.length ≤ 1048576) (hf:∀ g ∈ x,Fits g) (d:Nat):∀ (i m:Int),0 ≤ i → i ≤ x.length → (x.length:Int) - i ≤ d → 0 ≤ m → m ≤ 1048576 →
  ∃ r,Ev (fun k=>laws_szGroupS.l0 k x m i) r ∧ (¬ r < 0 → ∀ g ∈ x.drop i.toNat,FewG g):=by
 have hend:∀ (i m:Int),¬ i < (x.length:Int) → ∃ r,Ev (fun k=>laws_szGroupS.l0 k x m i) r ∧ (¬ r < 0 → ∀ g ∈ x.drop i.toNat,FewG g):=by
  intro i m h
  refine ⟨m,Ev.step (f:=fun _=>some m) (fun k=>by rw [laws_szGroupS.l0,if_neg h]) (Ev.const rfl),fun _=>?_⟩
  rw [List.drop_of_length_le (by omega)]
  intro g hg;cases hg
 induction d with
 | zero=>intro i m h0 h1 hd _ _;exact hend i m (by omega)
 | succ d ih =>
  intro i m h0 h1 hd hm0 hm1
  by_cases hlt:i < (x.length:Int)
  rotate_left
  ·exact hend i m hlt
  obtain ⟨g,q,hr⟩:=drop_lt (l:=x) (i:=i.toNat) (by omega)
  have hrd:=rd65 hr
  have hnx:x.drop (i + 1).toNat = q:=by rw [show (i + 1).toNat = i.toNat + 1 by omega];exact drop_next' hr
  obtain ⟨r,hz,hb⟩:=sz_one (hf g (List.drop_subset i.toNat x (by rw [hr];exact List.mem_cons_self))) hm0 hm1
  have w2:wrap64 (i + 1) = i + 1:=w64 (by omega) (by omega)
  have step:∀ k,laws_szGroupS.l0 (k + 1) x m i = (laws_szGroup.f k g.f0 g.f1 g.f2 m).bind fun t150=>(if t150 < 0 then (some (-1)) else (laws_szGroupS.l0 k x t150 (i + 1))):=fun k=>by
   rw [laws_szGroupS.l0,if_pos hlt,if_pos h0,hrd,w2]
  by_cases hn:r < 0
  ·exact ⟨-1,Ev.step step (Ev.bind hz (Ev.pos hn (Ev.const rfl))),fun h=>absurd (by decide) h⟩
  obtain ⟨c1,c2,c3⟩:=hb hn
  obtain ⟨s,hs,hc⟩:=ih (i + 1) r (by omega) (by omega) (by omega) c1 (by omega)
  refine ⟨s,Ev.step step (Ev.bind hz (Ev.neg hn hs)),fun h=>?_⟩
  have:=hc h
  rw [hnx] at this
  rw [hr]
  intro y hy
  rcases List.mem_cons.mp hy with rfl|hy
  ·exact c3
  ·exact this y hy
theorem sz_ev {x:List S65} (hm:x.length ≤ maxLen) (hf:∀ g ∈ x,Fits g):∃ r,Ev (fun k=>laws_szGroupS.f k x 1048576) r ∧ (¬ r < 0 → x.length ≤ 1048576 ∧ ∀ g ∈ x,FewG g):=by
 unfold maxLen at hm
 have w1:wrap64 (1048576 - (x.length:Int)) = 1048576 - x.length:=w64 (by omega) (by omega)
 unfold laws_szGroupS.f
 rw [w1]
 by_cases h:(1048576:Int) - x.length < 0
 ·exact ⟨-1,Ev.pos h (Ev.const rfl),fun h=>absurd (by decide) h⟩
 ·obtain ⟨r,hr,hb⟩:=sz_loop x (by omega) hf x.length 0 (1048576 - x.length) (by omega) (by omega) (by omega) (by omega) (by omega)
  rw [Int.toNat_zero,List.drop_zero] at hb
  exact ⟨r,Ev.neg h hr,fun h=>⟨by omega,hb h⟩⟩
/-! copied -/
def toG (g:S65):S30:=⟨g.f0,g.f1.map toR,g.f2⟩
theorem to_one {g:S65} (h:FewG g):Ev (fun k=>laws_toGroup.f k g.f0 g.f1 g.f2) (g.f0,g.f1.map toR,g.f2):=by
 unfold laws_toGroup.f
 exact Ev.bind (ExS.to_ev h.1) (Ev.bind (HelpR.to_ev h.2.1) (Ev.const rfl))
theorem to_loop (x:List S65) (hx:x.length ≤ 1048576) (hf:∀ g ∈ x,FewG g) (d:Nat):∀ (i:Int) (o:List S30),0 ≤ i → i ≤ x.length → (x.length:Int) - i ≤ d → o.length = x.length → o.take i.toNat = (x.map toG).take i.toNat →
  Ev (fun k=>laws_toGroupS.l0 k x o i) (x.map toG):=by
 have hend:∀ (i:Int) (o:List S30),¬ i < (x.length:Int) → o.length = x.length → o.take i.toNat = (x.map toG).take i.toNat → Ev (fun k=>laws_toGroupS.l0 k x o i) (x.map toG):=by
  intro i o hlt hl ht
  rw [List.take_of_length_le (by omega),List.take_of_length_le (by rw [List.length_map];omega)] at ht
  exact Ev.step (f:=fun _=>some o) (fun k=>by rw [laws_toGroupS.l0,if_neg hlt]) (Ev.const (by rw [ht]))
 induction d with
 | zero=>intro i o h0 h1 hd hl ht;exact hend i o (by omega) hl ht
 | succ d ih =>
  intro i o h0 h1 hd hl ht
  by_cases hlt:i < (x.length:Int)
  rotate_left
  ·exact hend i o hlt hl ht
  obtain ⟨g,q,hr⟩:=drop_lt (l:=x) (i:=i.toNat) (by omega)
  have hrd:=rd65 hr
  have w2:wrap64 (i + 1) = i + 1:=w64 (by omega) (by omega)
  have hlo:i < (o.length:Int):=by omega
  have I:=ih (i + 1) (o.set i.toNat (toG g)) (by omega) (by omega) (by omega) (by rw [List.length_set];exact hl) (by
   rw [show (i + 1).toNat = i.toNat + 1 by omega]
   rw [List.take_succ_eq_append_getElem (by rw [List.length_set];omega),List.take_succ_eq_append_getElem (by rw [List.length_map];omega),List.getElem_set_self,List.getElem_map,List.take_set_of_le (Nat.le_refl _),ht]
   rw [List.drop_eq_getElem_cons (show i.toNat < x.length by omega)] at hr
   injection hr with hr _
   rw [hr])
  have T:=to_one (hf g (List.drop_subset i.toNat x (by rw [hr];exact List.mem_cons_self)))
  have step:∀ k,laws_toGroupS.l0 (k + 1) x o i = (laws_toGroup.f k g.f0 g.f1 g.f2).bind fun bt179=>(if i < (o.length:Int) then (laws_toGroupS.l0 k x (o.set i.toNat (⟨bt179.1,bt179.2.1,bt179.2.2⟩:S30)) (i + 1)) else (none)):=fun k=>by
   rw [laws_toGroupS.l0,if_pos hlt,if_pos h0,hrd,w2]
  exact Ev.step step (Ev.bind T (Ev.pos hlo I))
theorem to_ev {x:List S65} (hx:x.length ≤ 1048576) (hf:∀ g ∈ x,FewG g):Ev (fun k=>laws_toGroupS.f k x) (x.map toG):=by
 unfold laws_toGroupS.f
 refine Ev.pos (by omega) (Ev.pos (by omega) ?_)
 exact to_loop x hx hf x.length 0 _ (by omega) (by omega) (by omega) (by simp) (by simp)
/-! compared -/
theorem eq_one {g:S30} (h1:g.f0.length ≤ 1048576) (h2:g.f1.length ≤ 1048576):Ev (fun k=>laws_eqGroup.f k g.f0 g.f1 g.f2 g.f0 g.f1 g.f2) true:=by
 unfold laws_eqGroup.f
 exact Ev.bind (ExS.eq_ev h1) (Ev.pos rfl (Ev.bind (HelpR.eq_ev h2) (Ev.pos rfl (Ev.pos rfl (Ev.const rfl)))))
theorem eq_loop (x:List S30) (hx:x.length ≤ 1048576) (hf:∀ g ∈ x,g.f0.length ≤ 1048576 ∧ g.f1.length ≤ 1048576) (d:Nat):∀ (i:Int),0 ≤ i → i ≤ x.length → (x.length:Int) - i ≤ d → Ev (fun k=>laws_eqGroupS.l0 k x x i) true:=by
 have hend:∀ (i:Int),¬ i < (x.length:Int) → Ev (fun k=>laws_eqGroupS.l0 k x x i) true:=fun i hlt =>
  Ev.step (f:=fun _=>some true) (fun k=>by rw [laws_eqGroupS.l0,if_neg hlt]) (Ev.const rfl)
 induction d with
 | zero=>intro i h0 h1 hd;exact hend i (by omega)
 | succ d ih =>
  intro i h0 h1 hd
  by_cases hlt:i < (x.length:Int)
  rotate_left
  ·exact hend i hlt
  obtain ⟨g,q,hr⟩:=drop_lt (l:=x) (i:=i.toNat) (by omega)
  have hrd:=rd30 hr
  have w2:wrap64 (i + 1) = i + 1:=w64 (by omega) (by omega)
  obtain ⟨a1,a2⟩:=hf g (List.drop_subset i.toNat x (by rw [hr];exact List.mem_cons_self))
  have step:∀ k,laws_eqGroupS.l0 (k + 1) x x i = (laws_eqGroup.f k g.f0 g.f1 g.f2 g.f0 g.f1 g.f2).bind fun t200=>(if t200 = true then (laws_eqGroupS.l0 k x x (i + 1)) else (some false)):=fun k=>by
   rw [laws_eqGroupS.l0,if_pos hlt,if_pos h0,if_pos hlt,hrd,w2]
  exact Ev.step step (Ev.bind (eq_one a1 a2) (Ev.pos rfl (ih (i + 1) (by omega) (by omega) (by omega))))
theorem eq_ev {x:List S30} (hx:x.length ≤ 1048576) (hf:∀ g ∈ x,g.f0.length ≤ 1048576 ∧ g.f1.length ≤ 1048576):Ev (fun k=>laws_eqGroupS.f k x x) true:=by
 unfold laws_eqGroupS.f
 exact Ev.pos rfl (eq_loop x hx hf x.length 0 (by omega) (by omega) (by omega))
theorem few_to {x:List S65} (h:∀ g ∈ x,FewG g):(∀ g ∈ x.map toG,Few g) ∧ ∀ g ∈ x.map toG,g.f0.length ≤ 1048576 ∧ g.f1.length ≤ 1048576:=by
 refine ⟨?_,?_⟩
 ·intro g hg
  obtain ⟨y,hy,rfl⟩:=List.mem_map.mp hg
  obtain ⟨h1,h2,h3⟩:=h y hy
  refine ⟨?_,?_,?_⟩
  ·show y.f0.length ≤ _;omega
  ·show (y.f1.map toR).length ≤ _;rw [List.length_map];omega
  ·intro s hs;have:=h3 s hs;omega
 ·intro g hg
  obtain ⟨y,hy,rfl⟩:=List.mem_map.mp hg
  obtain ⟨h1,h2,h3⟩:=h y hy
  exact ⟨h1,by show (y.f1.map toR).length ≤ _;rw [List.length_map];exact h2⟩
end Go.Proofs.Ytheakfegchndcaa.HelpG
