/- Marks of a list of strings: what is marked is held. Condition: lists of at most two million strings. -/
-- Cut down by a program of this session (wip/tools/prune.py) to what its claim can name.
import Derived.Test.YtheakfegchndcaaPx1
import Derived.Test.YtheakfegchndcaaPx2
import Derived.Test.YtheakfegchndcaaLib
namespace Go.Proofs.Ytheakfegchndcaa.MarkS
open Go hiding stepT
open Go.RowKit Go.Proofs.Ytheakfegchndcaa.P Go.Proofs.Ytheakfegchndcaa.Lib Go.Proofs.YtheakfegchndcaaW.PrintWords Go.Proofs.YtheakfegchndcaaW.PrintLast
set_option linter.unusedVariables false
set_option linter.unusedSimpArgs false

/-- The mark of a number. -/
def Mk (n:Int) (v:ByteArray):Prop:=Ev (fun k=>laws_markText.f k n) v
theorem Mk.one {n:Int} {v w:ByteArray} (h:Mk n v) (h':Mk n w):v = w:=Ev.det h h'
theorem str_size (x:Int):(strOfNums [x % 256]).size = 1:=by
 have e:L (strOfNums [x % 256]) = [x % 256]:=L_strOfNums (by intro y hy;rw [List.mem_singleton.mp hy];omega)
 rw [← L_length,e];rfl
theorem text_loop (d:Nat):∀ (x:Int) (s:ByteArray),0 ≤ x → x ≤ d → d ≤ 100000000 → s.size + d ≤ 1000000000 → ∃ v,Ev (fun k=>laws_markText.l0 k x s) v:=by
 have hend:∀ (x:Int) (s:ByteArray),¬ x > 0 → s.size ≤ 1000000000 → ∃ v,Ev (fun k=>laws_markText.l0 k x s) v:=fun x s hx hs =>
  ⟨_,Ev.step (fun k=>by rw [laws_markText.l0,if_neg hx]) (Ev.pos (by omega) (Ev.const rfl))⟩
 induction d with
 | zero=>intro x s h0 h1 _ h2;exact hend x s (by omega) (by omega)
 | succ d ih =>
  intro x s h0 h1 hd h2
  by_cases hx:x > 0
  rotate_left
  ·exact hend x s hx (by omega)
  have ht:x.tdiv 10 = x / 10:=Int.tdiv_eq_ediv_of_nonneg h0
  have w:wrap64 (x.tdiv 10) = x / 10:=by rw [ht,w64 (by omega) (by omega)]
  have z:=str_size (wrap64 (48 + x.tmod 10))
  have z2:((strOfNums [wrap64 (48 + x.tmod 10) % 256]) ++ s).size = 1 + s.size:=by rw [ByteArray.size_append,z]
  obtain ⟨v,hv⟩:=ih (x / 10) ((strOfNums [wrap64 (48 + x.tmod 10) % 256]) ++ s) (by clear w ht;omega) (by clear w ht;omega) (by omega) (by omega)
  refine ⟨v,Ev.step (f:=fun k=>(some [wrap64 (48 + x.tmod 10) % 256]).bind fun y589=>(if (strOfNums y589).size + s.size ≤ 9223372036854775807 then (laws_markText.l0 k (x / 10) ((strOfNums y589) ++ s)) else (none))) (fun k=>by rw [laws_markText.l0,if_pos hx,w]) (Ev.bind0 rfl (Ev.pos ?_ hv))⟩
  rw [z];clear w ht;omega
theorem mark_one {n:Int} (h:n ≤ 100000000):∃ v,Mk n v:=by
 unfold Mk laws_markText.f
 by_cases c:n ≤ 0
 ·exact ⟨_,Ev.pos c (Ev.const rfl)⟩
 ·obtain ⟨v,hv⟩:=text_loop n.toNat n (⟨#[]⟩:ByteArray) (by omega) (by omega) (by omega) (by show 0 + n.toNat ≤ _;omega)
  exact ⟨v,Ev.neg c hv⟩

/-- Marked from a place on. -/
def Marked (l:List ByteArray) (a:Int) (i:Nat):Prop:=∀ j:Nat,i ≤ j → j < l.length → ∃ v,l[j]? = some v ∧ Mk (a + j) v
theorem mark_loop (n:Nat) (a:Int) (ha:0 ≤ a) (ha2:a ≤ 10000000) (hn:n ≤ 2000000) (d:Nat):∀ (i:Int) (x:List ByteArray),x.length = n → 0 ≤ i → i ≤ n → (n:Int) - i ≤ d →
  ∃ l,Ev (fun k=>laws_markStringS.l0 k x (a + i) i) (a + n,l) ∧ l.length = n ∧ (∀ j:Nat,j < i.toNat → l[j]? = x[j]?) ∧ Marked l a i.toNat:=by
 have hend:∀ (i:Int) (x:List ByteArray),x.length = n → i = n → ∃ l,Ev (fun k=>laws_markStringS.l0 k x (a + i) i) (a + n,l) ∧ l.length = n ∧ (∀ j:Nat,j < i.toNat → l[j]? = x[j]?) ∧ Marked l a i.toNat:=by
  intro i x hx hi
  refine ⟨x,Ev.step (f:=fun _=>some (a + i,x)) (fun k=>by rw [laws_markStringS.l0,if_neg (by omega)]) (Ev.const (by rw [hi])),hx,fun _ _=>rfl,?_⟩
  intro j h1 h2
  omega
 induction d with
 | zero=>intro i x hx h0 h1 hd;exact hend i x hx (by omega)
 | succ d ih =>
  intro i x hx h0 h1 hd
  by_cases hlt:i < (x.length:Int)
  rotate_left
  ·exact hend i x hx (by omega)
  obtain ⟨t,ht⟩:=mark_one (n:=a + i) (by omega)
  have w1:wrap64 (a + i + 1) = a + (i + 1):=by rw [w64 (by omega) (by omega)];omega
  have w2:wrap64 (i + 1) = i + 1:=w64 (by omega) (by omega)
  obtain ⟨l,hl,hz,hb,hm⟩:=ih (i + 1) (x.set i.toNat t) (by rw [List.length_set];exact hx) (by omega) (by omega) (by omega)
  refine ⟨l,Ev.step (fun k=>by rw [laws_markStringS.l0,if_pos hlt,w1,w2]) (Ev.bind ht (Ev.pos h0 hl)),hz,?_,?_⟩
  ·intro j hj
   rw [hb j (by omega),List.getElem?_set_ne (by omega)]
  ·intro j h1 h2
   by_cases e:j = i.toNat
   ·subst e
    refine ⟨t,?_,?_⟩
    ·rw [hb _ (by omega),List.getElem?_set_self (by omega)]
    ·rw [show a + ((i.toNat:Nat):Int) = a + i by omega];exact ht
   ·exact hm j (by omega) h2
theorem mark_ev {x:List ByteArray} (h:x.length ≤ 2000000) {a:Int} (ha:0 ≤ a) (ha2:a ≤ 10000000) :
  ∃ l,Ev (fun k=>laws_markStringS.f k x a) (a + x.length,l) ∧ l.length = x.length ∧ Marked l a 0:=by
 obtain ⟨l,hl,hz,_,hm⟩:=mark_loop x.length a ha ha2 h x.length 0 x rfl (by omega) (by omega) (by omega)
 refine ⟨l,?_,hz,hm⟩
 unfold laws_markStringS.f
 simpa using hl
theorem held_loop (l:List ByteArray) (a:Int) (ha:0 ≤ a) (ha2:a ≤ 10000000) (hn:l.length ≤ 2000000) (hm:Marked l a 0) (d:Nat):∀ i:Int,0 ≤ i → i ≤ l.length → (l.length:Int) - i ≤ d →
  Ev (fun k=>laws_heldStringS.l0 k l (a + i) i) (a + l.length):=by
 have hend:∀ i:Int,i = l.length → Ev (fun k=>laws_heldStringS.l0 k l (a + i) i) (a + l.length):=fun i hi =>
  Ev.step (f:=fun _=>some (a + i)) (fun k=>by rw [laws_heldStringS.l0,if_neg (by omega)]) (Ev.const (by rw [hi]))
 induction d with
 | zero=>intro i h0 h1 hd;exact hend i (by omega)
 | succ d ih =>
  intro i h0 h1 hd
  by_cases hlt:i < (l.length:Int)
  rotate_left
  ·exact hend i (by omega)
  obtain ⟨v,hv,hk⟩:=hm i.toNat (by omega) (by omega)
  rw [show a + ((i.toNat:Nat):Int) = a + i by omega] at hk
  have hr:rdOf ByteArray.empty l i = v:=by unfold rdOf;rw [List.getD_eq_getElem?_getD,hv];rfl
  have w1:wrap64 (a + i + 1) = a + (i + 1):=by rw [w64 (by omega) (by omega)];omega
  have w2:wrap64 (i + 1) = i + 1:=w64 (by omega) (by omega)
  exact Ev.step (fun k=>by rw [laws_heldStringS.l0,if_pos hlt,if_pos h0,hr,w1,w2]) (Ev.bind hk (Ev.pos rfl (ih (i + 1) (by omega) (by omega) (by omega))))
theorem held_ev {l:List ByteArray} (h:l.length ≤ 2000000) {a:Int} (ha:0 ≤ a) (ha2:a ≤ 10000000) (hm:Marked l a 0):Ev (fun k=>laws_heldStringS.f k l a) (a + l.length):=by
 unfold laws_heldStringS.f
 have:=held_loop l a ha ha2 h hm l.length 0 (by omega) (by omega) (by omega)
 simpa using this
end Go.Proofs.Ytheakfegchndcaa.MarkS
