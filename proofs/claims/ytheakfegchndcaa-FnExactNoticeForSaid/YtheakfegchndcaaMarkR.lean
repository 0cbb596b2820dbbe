/- Marks of a list of rules: what is marked is held. (The numbers of the types are this seat's.) Condition: lists of at most two million rules. -/
-- Cut down by a program of this session (wip/tools/prune.py) to what its claim can name.
import Derived.Test.YtheakfegchndcaaPx0
import Derived.Test.YtheakfegchndcaaPx1
import Derived.Test.YtheakfegchndcaaPx2
import Derived.Test.YtheakfegchndcaaMarkS
import Derived.Test.YtheakfegchndcaaGrpB
namespace Go.Proofs.Ytheakfegchndcaa.MarkR
open Go hiding stepT
open Go.RowKit Go.Proofs.Ytheakfegchndcaa.P Go.Proofs.Ytheakfegchndcaa.Lib Go.Proofs.Ytheakfegchndcaa.NoticeF Go.Proofs.Ytheakfegchndcaa.MarkS Go.Proofs.YtheakfegchndcaaW.PrintWords Go.Proofs.YtheakfegchndcaaW.PrintLast
set_option linter.unusedVariables false
set_option linter.unusedSimpArgs false

/-- Marked from a place on. -/
def Marked (l:List S57) (a:Int) (i:Nat):Prop:=∀ j:Nat,i ≤ j → j < l.length → ∃ v:S57,l[j]? = some v ∧ v.f0 = ((a + 2 * (j:Int)).tmod 3 == 0) ∧ Mk (a + 2 * (j:Int) + 1) v.f1
theorem rd_set {x:List S57} {i:Int} {v:S57} (h:i.toNat < x.length):rd_T57 (x.set i.toNat v) i = v:=by
 unfold rd_T57
 rw [List.getD_eq_getElem?_getD,List.getElem?_set_self h];rfl
theorem mark_loop (n:Nat) (a:Int) (ha:0 ≤ a) (ha2:a ≤ 10000000) (hn:n ≤ 2000000) (d:Nat):∀ (i:Int) (x:List S57),x.length = n → 0 ≤ i → i ≤ n → (n:Int) - i ≤ d →
  ∃ l,Ev (fun k=>laws_markRuleS.l0 k x (a + 2 * i) i) (a + 2 * n,l) ∧ l.length = n ∧ (∀ j:Nat,j < i.toNat → l[j]? = x[j]?) ∧ Marked l a i.toNat:=by
 have hend:∀ (i:Int) (x:List S57),x.length = n → i = n → ∃ l,Ev (fun k=>laws_markRuleS.l0 k x (a + 2 * i) i) (a + 2 * n,l) ∧ l.length = n ∧ (∀ j:Nat,j < i.toNat → l[j]? = x[j]?) ∧ Marked l a i.toNat:=by
  intro i x hx hi
  refine ⟨x,Ev.step (f:=fun _=>some (a + 2 * i,x)) (fun k=>by rw [laws_markRuleS.l0,if_neg (by omega)]) (Ev.const (by rw [hi])),hx,fun _ _=>rfl,?_⟩
  intro j h1 h2
  omega
 induction d with
 | zero=>intro i x hx h0 h1 hd;exact hend i x hx (by omega)
 | succ d ih =>
  intro i x hx h0 h1 hd
  by_cases hlt:i < (x.length:Int)
  rotate_left
  ·exact hend i x hx (by omega)
  obtain ⟨t,ht⟩:=mark_one (n:=a + 2 * i + 1) (by omega)
  have w0:wrap64 (a + 2 * i + 1) = a + 2 * i + 1:=w64 (by omega) (by omega)
  have w1:wrap64 (a + 2 * i + 1 + 1) = a + 2 * (i + 1):=by rw [w64 (by omega) (by omega)];omega
  have w2:wrap64 (i + 1) = i + 1:=w64 (by omega) (by omega)
  have hi:i.toNat < x.length:=by omega
  obtain ⟨y,hy⟩:∃ y,x.set i.toNat (⟨(a + 2 * i).tmod 3 == 0,(rd_T57 x i).f1⟩:S57) = y:=⟨_,rfl⟩
  have hyl:y.length = n:=by rw [← hy,List.length_set];exact hx
  have hyr:(rd_T57 y i).f0 = ((a + 2 * i).tmod 3 == 0):=by rw [← hy,rd_set hi]
  obtain ⟨l,hl,hz,hb,hm⟩:=ih (i + 1) (y.set i.toNat (⟨(rd_T57 y i).f0,t⟩:S57)) (by rw [List.length_set];exact hyl) (by omega) (by omega) (by omega)
  refine ⟨l,Ev.step (fun k=>by rw [laws_markRuleS.l0,if_pos hlt,if_pos h0,w0,w1,w2]) (Ev.bind0 (a:=y) (congrArg some hy) (Ev.bind ht hl)),hz,?_,?_⟩
  ·intro j hj
   rw [hb j (by omega),List.getElem?_set_ne (by omega),← hy,List.getElem?_set_ne (by omega)]
  ·intro j h1 h2
   by_cases e:j = i.toNat
   ·subst e
    refine ⟨⟨(rd_T57 y i).f0,t⟩,?_,?_,?_⟩
    ·rw [hb _ (by omega),List.getElem?_set_self (by omega)]
    ·rw [show a + 2 * ((i.toNat:Nat):Int) = a + 2 * i by omega];exact hyr
    ·rw [show a + 2 * ((i.toNat:Nat):Int) + 1 = a + 2 * i + 1 by omega];exact ht
   ·exact hm j (by omega) h2
theorem mark_ev {x:List S57} (h:x.length ≤ 2000000) {a:Int} (ha:0 ≤ a) (ha2:a ≤ 10000000) :
  ∃ l,Ev (fun k=>laws_markRuleS.f k x a) (a + 2 * x.length,l) ∧ l.length = x.length ∧ Marked l a 0:=by
 obtain ⟨l,hl,hz,_,hm⟩:=mark_loop x.length a ha ha2 h x.length 0 x rfl (by omega) (by omega) (by omega)
 refine ⟨l,?_,hz,hm⟩
 unfold laws_markRuleS.f
 simpa using hl
theorem held_loop (l:List S57) (a:Int) (ha:0 ≤ a) (ha2:a ≤ 10000000) (hn:l.length ≤ 2000000) (hm:Marked l a 0) (d:Nat):∀ i:Int,0 ≤ i → i ≤ l.length → (l.length:Int) - i ≤ d →
  Ev (fun k=>laws_heldRuleS.l0 k l (a + 2 * i) i) (a + 2 * l.length):=by
 have hend:∀ i:Int,i = l.length → Ev (fun k=>laws_heldRuleS.l0 k l (a + 2 * i) i) (a + 2 * l.length):=fun i hi =>
  Ev.step (f:=fun _=>some (a + 2 * i)) (fun k=>by rw [laws_heldRuleS.l0,if_neg (by omega)]) (Ev.const (by rw [hi]))
 induction d with
 | zero=>intro i h0 h1 hd;exact hend i (by omega)
 | succ d ih =>
  intro i h0 h1 hd
  by_cases hlt:i < (l.length:Int)
  rotate_left
  ·exact hend i (by omega)
  obtain ⟨v,hv,hf,hk⟩:=hm i.toNat (by omega) (by omega)
  rw [show a + 2 * ((i.toNat:Nat):Int) = a + 2 * i by omega] at hf hk
  have hr:rd_T57 l i = v:=by unfold rd_T57;rw [List.getD_eq_getElem?_getD,hv];rfl
  have w0:wrap64 (a + 2 * i + 1) = a + 2 * i + 1:=w64 (by omega) (by omega)
  have w1:wrap64 (a + 2 * i + 1 + 1) = a + 2 * (i + 1):=by rw [w64 (by omega) (by omega)];omega
  have w2:wrap64 (i + 1) = i + 1:=w64 (by omega) (by omega)
  have hq:¬ (v.f0 != ((a + 2 * i).tmod 3 == 0)) = true:=by rw [hf];simp
  exact Ev.step (fun k=>by rw [laws_heldRuleS.l0,if_pos hlt,if_pos h0,hr,if_neg hq,w0,w1,w2]) (Ev.bind hk (Ev.pos rfl (ih (i + 1) (by omega) (by omega) (by omega))))
theorem held_ev {l:List S57} (h:l.length ≤ 2000000) {a:Int} (ha:0 ≤ a) (ha2:a ≤ 10000000) (hm:Marked l a 0):Ev (fun k=>laws_heldRuleS.f k l a) (a + 2 * l.length):=by
 unfold laws_heldRuleS.f
 have:=held_loop l a ha ha2 h hm l.length 0 (by omega) (by omega) (by omega)
 simpa using this
/-- A group, marked and held. -/
theorem group_ev {l:List ByteArray} {s:List S57} {m:Int} (hl:l.length ≤ 2000000) (hs:s.length ≤ 2000000) :
  ∃ l' s' u,Ev (fun k=>laws_markGroup.f k l s m 1) (u,l',s') ∧ Ev (fun k=>laws_heldGroup.f k l' s' m 1) u ∧ ¬ u < 0:=by
 obtain ⟨l',h1,e1,m1⟩:=MarkS.mark_ev hl (a:=1) (by omega) (by omega)
 obtain ⟨s',h2,e2,m2⟩:=mark_ev hs (a:=1 + (l.length:Int)) (by omega) (by omega)
 have k1:=MarkS.held_ev (l:=l') (by omega) (a:=1) (by omega) (by omega) m1
 have k2:=held_ev (l:=s') (by omega) (a:=1 + (l.length:Int)) (by omega) (by omega) m2
 rw [e1] at k1
 rw [e2] at k2
 refine ⟨l',s',1 + (l.length:Int) + 2 * s.length,?_,?_,by omega⟩
 ·unfold laws_markGroup.f
  exact Ev.bind h1 (Ev.bind h2 (Ev.const rfl))
 ·unfold laws_heldGroup.f
  exact Ev.bind k1 (Ev.neg (by omega) (Ev.bind k2 (Ev.neg (by omega) (Ev.const rfl))))
/-- Some groups, marked: a number that is none below nought. -/
theorem groups_ev (x:List S30):∀ a:Int,0 ≤ a → (∀ g ∈ x,g.f0.length ≤ 2000000 ∧ g.f1.length ≤ 2000000) → a + (((x.map fun g=>g.f0.length + 2 * g.f1.length + 1).sum:Nat):Int) ≤ 9000000 → ∃ n,Ev (fun k=>laws_markGroupS.f k x a) n ∧ ¬ n < 0:=by
 unfold laws_markGroupS.f
 induction x with
 | nil=>intro a ha _ _;exact ⟨a,Ev.step (f:=fun _=>some a) (fun k=>by rw [laws_markGroupS.l0]) (Ev.const rfl),by omega⟩
 | cons g t ih =>
  intro a ha hg hs
  rw [List.map_cons,List.sum_cons] at hs
  have h:=hg g List.mem_cons_self
  obtain ⟨l',h1,_,_⟩:=MarkS.mark_ev h.1 (a:=a) ha (by omega)
  obtain ⟨s',h2,_,_⟩:=mark_ev h.2 (a:=a + (g.f0.length:Int)) (by omega) (by omega)
  have w:wrap64 (a + (g.f0.length:Int) + 2 * (g.f1.length:Int) + 1) = a + (g.f0.length:Int) + 2 * (g.f1.length:Int) + 1:=w64 (by omega) (by omega)
  obtain ⟨n,hn,h0⟩:=ih (a + (g.f0.length:Int) + 2 * (g.f1.length:Int) + 1) (by omega) (fun y hy=>hg y (List.mem_cons_of_mem _ hy)) (by omega)
  refine ⟨n,Ev.step (fun k=>by rw [laws_markGroupS.l0]) (Ev.bind h1 (Ev.bind h2 ?_)),h0⟩
  show Ev (fun k=>laws_markGroupS.l0 k t (wrap64 (a + (g.f0.length:Int) + 2 * (g.f1.length:Int) + 1))) n
  rw [w];exact hn
end Go.Proofs.Ytheakfegchndcaa.MarkR
