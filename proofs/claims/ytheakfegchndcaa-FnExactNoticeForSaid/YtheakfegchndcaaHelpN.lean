/- What all groups weigh together. (The numbers of the types are this seat's.) Condition: none. -/
-- Cut down by a program of this session (wip/tools/prune.py) to what its claim can name.
import Derived.Test.YtheakfegchndcaaPx0
import Derived.Test.YtheakfegchndcaaPx1
import Derived.Test.YtheakfegchndcaaHelpG
namespace Go.Proofs.Ytheakfegchndcaa.HelpN
open Go hiding stepT
open Go.RowKit Go.Proofs.Ytheakfegchndcaa.P Go.Proofs.Ytheakfegchndcaa.Lib Go.Proofs.Ytheakfegchndcaa.NoticeF Go.Proofs.Ytheakfegchndcaa.HelpR Go.Proofs.Ytheakfegchndcaa.HelpG Go.Proofs.YtheakfegchndcaaW.PrintWords Go.Proofs.YtheakfegchndcaaW.PrintLast
set_option linter.unusedVariables false
set_option linter.unusedSimpArgs false

def wts:List S65 → Nat
 | []=>0
 | g :: t=>g.f0.length + g.f1.length + wts t
theorem one {g:S65} (hf:Fits g) {m:Int} (hm0:0 ≤ m) (hm1:m ≤ 1048576):∃ r,Ev (fun k=>laws_szGroup.f k g.f0 g.f1 g.f2 m) r ∧ (¬ r < 0 → 0 ≤ r ∧ r + (g.f0.length + g.f1.length) ≤ m):=by
 obtain ⟨⟨a1,a2⟩,⟨b1,b2⟩,_⟩:=hf
 obtain ⟨r,hr,hb⟩:=ExS.sz_ev a1 a2 hm0 hm1
 unfold laws_szGroup.f
 by_cases h:r < 0
 ·exact ⟨-1,Ev.bind hr (Ev.pos h (Ev.const rfl)),fun h=>absurd (by decide) h⟩
 obtain ⟨h0,he⟩:=hb h
 obtain ⟨s,hs,hc⟩:=HelpR.sz_ev2 b1 b2 (m:=r) h0 (by omega)
 by_cases h2:s < 0
 ·exact ⟨-1,Ev.bind hr (Ev.neg h (Ev.bind hs (Ev.pos h2 (Ev.const rfl)))),fun h=>absurd (by decide) h⟩
 have c1:=hc h2
 exact ⟨s,Ev.bind hr (Ev.neg h (Ev.bind hs (Ev.neg h2 (Ev.const rfl)))),fun _=>⟨by omega,by omega⟩⟩
theorem loop (x:List S65) (hx:x.length ≤ 1048576) (hf:∀ g ∈ x,Fits g) (d:Nat):∀ (i m:Int),0 ≤ i → i ≤ x.length → (x.length:Int) - i ≤ d → 0 ≤ m → m ≤ 1048576 →
  ∃ r,Ev (fun k=>laws_szGroupS.l0 k x m i) r ∧ (¬ r < 0 → r + wts (x.drop i.toNat) ≤ m):=by
 have hend:∀ (i m:Int),¬ i < (x.length:Int) → ∃ r,Ev (fun k=>laws_szGroupS.l0 k x m i) r ∧ (¬ r < 0 → r + wts (x.drop i.toNat) ≤ m):=by
  intro i m h
  refine ⟨m,Ev.step (f:=fun _=>some m) (fun k=>by rw [laws_szGroupS.l0,if_neg h]) (Ev.const rfl),fun _=>?_⟩
  rw [List.drop_of_length_le (by omega)]
  show m + ((0:Nat):Int) ≤ m;omega
 induction d with
 | zero=>intro i m h0 h1 hd _ _;exact hend i m (by omega)
 | succ d ih =>
  intro i m h0 h1 hd hm0 hm1
  by_cases hlt:i < (x.length:Int)
  rotate_left
  ·exact hend i m hlt
  obtain ⟨g,q,hr⟩:=drop_lt (l:=x) (i:=i.toNat) (by omega)
  have hrd:=rd65 hr
  have hnx:x.drop (i + 1).toNat = q:=by rw [show (i + 1).toNat = i.toNat + 1 by omega];exact drop_next' hr
  obtain ⟨r,hz,hb⟩:=one (hf g (List.drop_subset i.toNat x (by rw [hr];exact List.mem_cons_self))) hm0 hm1
  have w2:wrap64 (i + 1) = i + 1:=w64 (by omega) (by omega)
  have step:∀ k,laws_szGroupS.l0 (k + 1) x m i = (laws_szGroup.f k g.f0 g.f1 g.f2 m).bind fun t150=>(if t150 < 0 then (some (-1)) else (laws_szGroupS.l0 k x t150 (i + 1))):=fun k=>by
   rw [laws_szGroupS.l0,if_pos hlt,if_pos h0,hrd,w2]
  by_cases hn:r < 0
  ·exact ⟨-1,Ev.step step (Ev.bind hz (Ev.pos hn (Ev.const rfl))),fun h=>absurd (by decide) h⟩
  obtain ⟨c1,c2⟩:=hb hn
  obtain ⟨s,hs,hc⟩:=ih (i + 1) r (by omega) (by omega) (by omega) c1 (by omega)
  refine ⟨s,Ev.step step (Ev.bind hz (Ev.neg hn hs)),fun h=>?_⟩
  have:=hc h
  rw [hnx] at this
  rw [hr]
  have e:wts (g :: q) = g.f0.length + g.f1.length + wts q:=rfl
  omega
theorem sz_all {x:List S65} (hm:x.length ≤ maxLen) (hf:∀ g ∈ x,Fits g):∃ r,Ev (fun k=>laws_szGroupS.f k x 1048576) r ∧ (¬ r < 0 → 0 ≤ r ∧ r + (x.length + wts x) ≤ 1048576):=by
 unfold maxLen at hm
 have w1:wrap64 (1048576 - (x.length:Int)) = 1048576 - x.length:=w64 (by omega) (by omega)
 unfold laws_szGroupS.f
 rw [w1]
 by_cases h:(1048576:Int) - x.length < 0
 ·exact ⟨-1,Ev.pos h (Ev.const rfl),fun h=>absurd (by decide) h⟩
 ·obtain ⟨r,hr,hb⟩:=loop x (by omega) hf x.length 0 (1048576 - x.length) (by omega) (by omega) (by omega) (by omega) (by omega)
  rw [Int.toNat_zero,List.drop_zero] at hb
  exact ⟨r,Ev.neg h hr,fun h=>by have:=hb h;omega⟩
end Go.Proofs.Ytheakfegchndcaa.HelpN
