/- Plain words on the bytes of strings, on numbers of 64 bits, and on rounds: no program in sight. Condition: none. -/
-- Cut down by a program of this session (wip/tools/prune.py) to what its claim can name.
import Derived.Test.YtheakfegchndcaaWWords
namespace Go.Proofs.Ytheakfegchndcaa.Lib
open Go Go.RowKit Go.Proofs.YtheakfegchndcaaW.PrintWords
set_option linter.unusedVariables false
set_option linter.unusedSimpArgs false

theorem w64 {x:Int} (h0:-9223372036854775808 ≤ x) (h1:x ≤ 9223372036854775807):wrap64 x = x:=by
 unfold wrap64;omega

/-- The bytes of a string, as numbers. -/
def L (s:ByteArray):List Int:=bytesOf s

theorem L_length (s:ByteArray):(L s).length = s.size:=bytesOf_length s
theorem L_def (s:ByteArray):L s = s.data.toList.map fun b=>(b.toNat:Int):=rfl
theorem drop_lt {α:Type} {l:List α} {i:Nat} (h:i < l.length):∃ b r,l.drop i = b :: r:=⟨_,_,List.drop_eq_getElem_cons h⟩

theorem L_strOfNums {xs:List Int} (h:∀ x ∈ xs,0 ≤ x ∧ x ≤ 255):L (strOfNums xs) = xs:=by
 rw [L_def,strOfNums_data,List.map_map]
 conv=>rhs;rw [← List.map_id xs]
 apply List.map_congr_left
 intro x hx
 have:=h x hx
 simp only [Function.comp,id]
 rw [UInt8.toNat_ofNat_of_lt' (by simp [UInt8.size];omega)]
 omega

theorem rdOf_get {α:Type} {d:α} {l:List α} {i:Int} {b:α} {r:List α} (h:l.drop i.toNat = b :: r):rdOf d l i = b:=by
 have hl:i.toNat < l.length:=by
  have:=congrArg List.length h
  simp at this;omega
 unfold rdOf
 rw [List.getD_eq_getElem?_getD,List.getElem?_eq_getElem hl]
 rw [List.drop_eq_getElem_cons hl] at h
 injection h with h _
theorem drop_next' {α:Type} {l:List α} {i:Nat} {b:α} {r:List α} (h:l.drop i = b :: r):l.drop (i + 1) = r:=by
 rw [← List.drop_drop,h];rfl

theorem Ev.mk {α:Type} {g:Nat → Option α} {r:α} (K:Nat) (h:∀ k,K ≤ k → g k = some r):Ev g r:=⟨K,h⟩
theorem Ev.const {α:Type} {x:Option α} {r:α} (h:x = some r):Ev (fun _=>x) r:=⟨0,fun _ _=>h⟩
theorem Ev.pos {α:Type} {c:Prop} [Decidable c] {a b:Nat → Option α} {r:α} (h:c) (k:Ev a r):Ev (fun n=>if c then a n else b n) r:=by
 simp only [if_pos h];exact k
theorem Ev.neg {α:Type} {c:Prop} [Decidable c] {a b:Nat → Option α} {r:α} (h:¬ c) (k:Ev b r):Ev (fun n=>if c then a n else b n) r:=by
 simp only [if_neg h];exact k
/-- A part without rounds. -/
theorem Ev.bind0 {α β:Type} {x:Option α} {f:Nat → α → Option β} {a:α} {r:β} (h:x = some a) (k:Ev (fun n=>f n a) r):Ev (fun n=>x.bind (f n)) r:=by
 subst h;exact k
/-- One round more. -/
theorem Ev.enter {α:Type} {g:Nat → Option α} {r:α} (h:Ev (fun k=>g (k + 1)) r):Ev g r:=Ev.step (fun _=>rfl) h
/-- One call settled, whatever is asked of its answer. -/
theorem Ev.det {α:Type} {g:Nat → Option α} {r r':α} (h:Ev g r) (h':Ev g r'):r = r':=by
 obtain ⟨K,h⟩:=h
 obtain ⟨K',h'⟩:=h'
 have a:=h (max K K') (by omega)
 have b:=h' (max K K') (by omega)
 rw [a] at b
 exact Option.some.inj b

end Go.Proofs.Ytheakfegchndcaa.Lib
