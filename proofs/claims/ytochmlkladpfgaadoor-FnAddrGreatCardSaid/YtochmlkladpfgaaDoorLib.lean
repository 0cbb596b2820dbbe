/- Plain words on the bytes of strings, on numbers of 64 bits, and on rounds: no program in sight. Condition: none. -/
-- Cut down by a program of this session (wip/tools/prune.py) to what its claim can name.
import Derived.Test.YtochmlkladpfgaaDoorWWords
namespace Go.Proofs.YtochmlkladpfgaaDoor.Lib
open Go Go.RowKit Go.Proofs.YtochmlkladpfgaaDoorW.PrintWords
set_option linter.unusedVariables false
set_option linter.unusedSimpArgs false

theorem w64 {x:Int} (h0:-9223372036854775808 ≤ x) (h1:x ≤ 9223372036854775807):wrap64 x = x:=by
 unfold wrap64;omega

/-- The bytes of a string, as numbers. -/
def L (s:ByteArray):List Int:=bytesOf s

theorem L_length (s:ByteArray):(L s).length = s.size:=bytesOf_length s
theorem L_def (s:ByteArray):L s = s.data.toList.map fun b=>(b.toNat:Int):=rfl
theorem L_of (s:ByteArray):L s = s.toList.map fun b=>(b.toNat:Int):=by rw [Go.ByteArray.toList_eq];rfl

theorem map_inj_ {α β:Type} (f:α → β) (hf:∀ x y,f x = f y → x = y):∀ a b:List α,a.map f = b.map f → a = b
 | [],[],_=>rfl
 | [],_ :: _,h=>by simp at h
 | _ :: _,[],h=>by simp at h
 | x :: a,y :: b,h=>by
  simp only [List.map_cons,List.cons.injEq] at h
  rw [hf _ _ h.1,map_inj_ f hf a b h.2]

theorem byte_inj (x y:UInt8) (h:(x.toNat:Int) = (y.toNat:Int)):x = y:=UInt8.toNat_inj.mp (by omega)

theorem L_inj {a b:ByteArray} (h:L a = L b):a = b:=by
 have h':=map_inj_ _ byte_inj _ _ h
 exact ByteArray.ext (Array.toList_inj.mp h')

theorem toList_inj {a b:ByteArray} (h:a.toList = b.toList):a = b:=by
 rw [Go.ByteArray.toList_eq,Go.ByteArray.toList_eq] at h
 exact ByteArray.ext (Array.toList_inj.mp h)
theorem toList_iff (a b:ByteArray):a.toList = b.toList ↔ a = b:=⟨toList_inj,fun h=>by rw [h]⟩
theorem L_iff (a b:ByteArray):L a = L b ↔ a = b:=⟨L_inj,fun h=>by rw [h]⟩
theorem beq_toList (a b:ByteArray):(a.toList == b.toList) = decide (L a = L b):=by
 rw [Bool.eq_iff_iff];simp [toList_iff,L_iff]
theorem L_append (a b:ByteArray):L (a ++ b) = L a ++ L b:=by
 simp [L_def,ByteArray.data_append]
theorem L_extract (s:ByteArray) (i j:Nat):L (s.extract i j) = ((L s).take j).drop i:=by
 simp [L_def,ByteArray.data_extract,List.map_take,List.map_drop,Array.toList_extract,List.drop_take]
theorem L_empty:L (⟨#[]⟩:ByteArray) = []:=rfl
theorem L_range (s:ByteArray):∀ x ∈ L s,0 ≤ x ∧ x ≤ 255:=by
 intro x hx
 rw [L_def,List.mem_map] at hx
 obtain ⟨b,_,rfl⟩:=hx
 have:=b.toNat_lt
 omega

theorem bt_L (s:ByteArray) (i:Int):bt s i = (L s).getD i.toNat 0:=(rd_bytesOf s i).symm
theorem bt_get {s:ByteArray} {i:Int} {b:Int} {r:List Int} (h:(L s).drop i.toNat = b :: r):bt s i = b:=by
 have hl:i.toNat < (L s).length:=by
  have:=congrArg List.length h
  simp at this;omega
 rw [bt_L,List.getD_eq_getElem?_getD,List.getElem?_eq_getElem hl]
 rw [List.drop_eq_getElem_cons hl] at h
 injection h with h _
theorem drop_next {l:List Int} {i:Nat} {b:Int} {r:List Int} (h:l.drop i = b :: r):l.drop (i + 1) = r:=by
 rw [← List.drop_drop,h];rfl
theorem drop_lt {α:Type} {l:List α} {i:Nat} (h:i < l.length):∃ b r,l.drop i = b :: r:=⟨_,_,List.drop_eq_getElem_cons h⟩

theorem L_strOfNums {xs:List Int} (h:∀ x ∈ xs,0 ≤ x ∧ x ≤ 255):L (strOfNums xs) = xs:=by
 rw [L_def,strOfNums_data,List.map_map]
 conv=>rhs;rw [← List.map_id xs]
 apply List.map_congr_left
 intro x hx
 have:=h x hx
 simp only [Function.comp,id]
 rw [UInt8.toNat_ofNat_of_lt' (by simp [UInt8.size];omega)]
 omega

theorem rdOf_get {α:Type} {d:α} {l:List α} {i:Int} {b:α} {r:List α} (h:l.drop i.toNat = b :: r):rdOf d l i = b:=by
 have hl:i.toNat < l.length:=by
  have:=congrArg List.length h
  simp at this;omega
 unfold rdOf
 rw [List.getD_eq_getElem?_getD,List.getElem?_eq_getElem hl]
 rw [List.drop_eq_getElem_cons hl] at h
 injection h with h _
theorem drop_next' {α:Type} {l:List α} {i:Nat} {b:α} {r:List α} (h:l.drop i = b :: r):l.drop (i + 1) = r:=by
 rw [← List.drop_drop,h];rfl

theorem toList_nil (p:ByteArray):p.toList = ([]:List UInt8) ↔ L p = []:=by rw [L_of];simp
theorem toList_lit (p:ByteArray) (l:List UInt8):p.toList = l ↔ L p = l.map fun b=>(b.toNat:Int):=by
 rw [L_of]
 exact ⟨fun h=>by rw [h],fun h=>map_inj_ _ byte_inj _ _ h⟩
theorem toList_dot (p:ByteArray):p.toList = ([46]:List UInt8) ↔ L p = [46]:=toList_lit p _
theorem toList_dots (p:ByteArray):p.toList = ([46,46]:List UInt8) ↔ L p = [46,46]:=toList_lit p _

theorem Ev.mk {α:Type} {g:Nat → Option α} {r:α} (K:Nat) (h:∀ k,K ≤ k → g k = some r):Ev g r:=⟨K,h⟩
theorem Ev.const {α:Type} {x:Option α} {r:α} (h:x = some r):Ev (fun _=>x) r:=⟨0,fun _ _=>h⟩
theorem Ev.pos {α:Type} {c:Prop} [Decidable c] {a b:Nat → Option α} {r:α} (h:c) (k:Ev a r):Ev (fun n=>if c then a n else b n) r:=by
 simp only [if_pos h];exact k
theorem Ev.neg {α:Type} {c:Prop} [Decidable c] {a b:Nat → Option α} {r:α} (h:¬ c) (k:Ev b r):Ev (fun n=>if c then a n else b n) r:=by
 simp only [if_neg h];exact k
/-- A part without rounds. -/
theorem Ev.bind0 {α β:Type} {x:Option α} {f:Nat → α → Option β} {a:α} {r:β} (h:x = some a) (k:Ev (fun n=>f n a) r):Ev (fun n=>x.bind (f n)) r:=by
 subst h;exact k
/-- One round more. -/
theorem Ev.enter {α:Type} {g:Nat → Option α} {r:α} (h:Ev (fun k=>g (k + 1)) r):Ev g r:=Ev.step (fun _=>rfl) h
end Go.Proofs.YtochmlkladpfgaaDoor.Lib
