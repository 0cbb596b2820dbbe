-- Written by a program of this session (patch_print.py over the kit's print; given texts in wip/given).
-- Cut down by a program of this session (wip/tools/prune.py) to what its claim can name.
import Derived.Test.YtheakfegchndcaaProg
import Derived.Below
import Derived.Deep.Draws
import Derived.Deep.AppendLies
import Derived.Maps.AppendAt
import Derived.OwnWalk
import Derived.Laws.BytesArg
import Derived.Laws.MakeOwn
import Derived.Laws.OwnMore
import Derived.Deep.OwnRows
import Derived.Tactics
import Derived.Lib.ConvBytes
import Derived.Laws.Slices
import Derived.WalkKit
import Derived.KernelRfl
import Derived.RowKit3
import Derived.Deep.LoopGhost
import Derived.Deep.QuietTactic
import Derived.BigQuiet
import Derived.WideLaws
import Derived.Deep.DeepCutAuto
import Derived.Deep.CutBlock
import Derived.Deep.RegionHeld3
import Derived.Laws.Rows
import Derived.Lib.AppendStr
import Derived.ArgAppend
import Derived.Laws.IdiomCopy
import Derived.OrdersHeld
import Derived.Laws.BitsLemmas
import Derived.RowKit
import Derived.WalkMore
import Derived.Laws.RangeString
import Derived.Laws.RangeAny
import Derived.Lib.Bytealg
import Derived.Lib.SplitLaws
import Derived.LoopN
import Derived.Laws.Runes
import Derived.Lib.IndexAny
import Derived.Lib.OthersKept
import Derived.Test.YtheakfegchndcaaWWords
import Derived.Test.YtheakfegchndcaaWLast
import Derived.Test.YtheakfegchndcaaWTab
import Derived.Test.YtheakfegchndcaaWApart
import Derived.Test.YtheakfegchndcaaWFoot
import Derived.Test.YtheakfegchndcaaWKept
import Derived.Test.YtheakfegchndcaaWShare
import Derived.Test.YtheakfegchndcaaWN
import Derived.Laws.StructEq
import Derived.Test.YtheakfegchndcaaWRepsOne
import Derived.Test.YtheakfegchndcaaWMore
namespace Go.Proofs.Ytheakfegchndcaa.P
open Go.RowKit Go.Proofs.YtheakfegchndcaaW.PrintWords Go.Proofs.YtheakfegchndcaaW.PrintLast Go.Proofs.YtheakfegchndcaaW.PrintMore
attribute [local go_sem] max2_int min2_int max_two min_two max_three min_three max_four min_four   -- for this text's walks alone
set_option linter.unusedVariables false
set_option linter.unusedSimpArgs false



theorem emp_bne (l:List UInt8):(l != []) = !l.isEmpty:=by cases l <;> rfl
theorem emp_beq (l:List UInt8):(l == []) = l.isEmpty:=by cases l <;> rfl
theorem info9:(Try.prog.info? 9).map (fun i=>(i.zero,i.size,i.bytes)) = some (some (.string ⟨#[]⟩),1,16):=by kernel_rfl
theorem info30:(Try.prog.info? 30).map (fun i=>(i.zero,i.size,i.bytes)) = some (some (.agg #[(.slice none 0 0),(.slice none 0 0),(.int .i64 0)]),3,56):=by kernel_rfl
theorem info57:(Try.prog.info? 57).map (fun i=>(i.zero,i.size,i.bytes)) = some (some (.agg #[(.bool false),(.string ⟨#[]⟩)]),2,24):=by kernel_rfl
-- the values' own types
structure S83 where
 f0:Bool
 f1:ByteArray
def z83:S83:=⟨false,(⟨#[]⟩:ByteArray)⟩
def k83:Kd S83:=Kd.iso (Kd.pair Kd.bool Kd.string) (fun x:S83=>(x.f0,x.f1))
theorem k83_open {w:World} {x:S83} {cs:List Value} (h:k83.K w x cs):cs = [.bool x.f0, .string x.f1]:=by
 obtain ⟨_,_,rfl,rfl,rfl⟩:=h
 exact rfl
def rd_T83 (xs:List S83) (i:Int):S83:=xs.getD i.toNat z83
theorem at_T83 {w:World} {A:Option Addr} {n:Nat} {xs:List S83} (h:Kd.C k83 w A n xs) (i:Int) (h0:0 ≤ i) (h1:i < n):∃ ad ,A = some ad ∧ w.cell? (ad.add (i.toNat * 2)) = some (.bool (rd_T83 xs i).f0) ∧ w.cell? ⟨(ad.add (i.toNat * 2)).block,(ad.add (i.toNat * 2)).off + 1,none⟩ = some (.string (rd_T83 xs i).f1):=by
 obtain ⟨ad,c,e,_,hK,hc0⟩:=Kd.C_get h z83 i h0 h1
 have hc:∀ j u,c[j]? = some u → w.cell? (ad.add (i.toNat * 2 + j)) = some u:=hc0
 obtain rfl:=k83_open hK
 exact ⟨ad,e,hc 0 _ rfl,by rw [← add_field _ _ 1 (by omega)];exact hc 1 _ rfl⟩

structure S65 where
 f0:(List ByteArray)
 f1:(List S83)
 f2:Int
def z65:S65:=⟨([]:List ByteArray),([]:List S83),(0:Int)⟩
def k65:Kd S65:=Kd.iso (Kd.pair (Kd.slice 9 Kd.string) (Kd.pair (Kd.slice 83 k83) (Kd.int .i64))) (fun x:S65=>(x.f0,x.f1,x.f2))
theorem k65_open {w:World} {x:S65} {cs:List Value} (h:k65.K w x cs):∃ A0 c0 A1 c1,cs = [.slice A0 x.f0.length c0, .slice A1 x.f1.length c1, .int .i64 x.f2] ∧ x.f0.length ≤ c0 ∧ Kd.string.C w A0 x.f0.length x.f0 ∧ x.f1.length ≤ c1 ∧ k83.C w A1 x.f1.length x.f1:=by
 obtain ⟨_,_,rfl,⟨A0,c0,rfl,l0,g0⟩,⟨_,_,rfl,⟨A1,c1,rfl,l1,g1⟩,rfl⟩⟩:=h
 exact ⟨A0,c0,A1,c1,rfl,l0,g0,l1,g1⟩
def rd_T65 (xs:List S65) (i:Int):S65:=xs.getD i.toNat z65
theorem at_T65 {w:World} {A:Option Addr} {n:Nat} {xs:List S65} (h:Kd.C k65 w A n xs) (i:Int) (h0:0 ≤ i) (h1:i < n):∃ ad A0 c0 A1 c1,A = some ad ∧ w.cell? (ad.add (i.toNat * 3)) = some (.slice A0 (rd_T65 xs i).f0.length c0) ∧ w.cell? ⟨(ad.add (i.toNat * 3)).block,(ad.add (i.toNat * 3)).off + 1,none⟩ = some (.slice A1 (rd_T65 xs i).f1.length c1) ∧ w.cell? ⟨(ad.add (i.toNat * 3)).block,(ad.add (i.toNat * 3)).off + 2,none⟩ = some (.int .i64 (rd_T65 xs i).f2) ∧ (rd_T65 xs i).f0.length ≤ c0 ∧ Kd.string.C w A0 (rd_T65 xs i).f0.length (rd_T65 xs i).f0 ∧ (rd_T65 xs i).f1.length ≤ c1 ∧ k83.C w A1 (rd_T65 xs i).f1.length (rd_T65 xs i).f1:=by
 obtain ⟨ad,c,e,_,hK,hc0⟩:=Kd.C_get h z65 i h0 h1
 have hc:∀ j u,c[j]? = some u → w.cell? (ad.add (i.toNat * 3 + j)) = some u:=hc0
 obtain ⟨A0,c0,A1,c1,rfl,l0,g0,l1,g1⟩:=k65_open hK
 exact ⟨ad,A0,c0,A1,c1,e,hc 0 _ rfl,by rw [← add_field _ _ 1 (by omega)];exact hc 1 _ rfl,by rw [← add_field _ _ 2 (by omega)];exact hc 2 _ rfl,l0,g0,l1,g1⟩

structure S57 where
 f0:Bool
 f1:ByteArray
def z57:S57:=⟨false,(⟨#[]⟩:ByteArray)⟩
def k57:Kd S57:=Kd.iso (Kd.pair Kd.bool Kd.string) (fun x:S57=>(x.f0,x.f1))
theorem k57_open {w:World} {x:S57} {cs:List Value} (h:k57.K w x cs):cs = [.bool x.f0, .string x.f1]:=by
 obtain ⟨_,_,rfl,rfl,rfl⟩:=h
 exact rfl
theorem k57_openM {w:World} {base:Nat} {ok:Nat → Prop} {x:S57} {cs:List Value} (h:k57.M w base ok x cs):cs = [.bool x.f0, .string x.f1]:=by
 obtain ⟨_,_,rfl,rfl,rfl⟩:=h
 exact rfl
theorem k57_mkM (w:World) (base:Nat) (ok:Nat → Prop) (x:S57) :k57.M w base ok x [.bool x.f0, .string x.f1]:=⟨[.bool x.f0],[.string x.f1],rfl,rfl,rfl⟩
def rd_T57 (xs:List S57) (i:Int):S57:=xs.getD i.toNat z57
theorem at_T57 {w:World} {A:Option Addr} {n:Nat} {xs:List S57} (h:Kd.C k57 w A n xs) (i:Int) (h0:0 ≤ i) (h1:i < n):∃ ad ,A = some ad ∧ w.cell? (ad.add (i.toNat * 2)) = some (.bool (rd_T57 xs i).f0) ∧ w.cell? ⟨(ad.add (i.toNat * 2)).block,(ad.add (i.toNat * 2)).off + 1,none⟩ = some (.string (rd_T57 xs i).f1):=by
 obtain ⟨ad,c,e,_,hK,hc0⟩:=Kd.C_get h z57 i h0 h1
 have hc:∀ j u,c[j]? = some u → w.cell? (ad.add (i.toNat * 2 + j)) = some u:=hc0
 obtain rfl:=k57_open hK
 exact ⟨ad,e,hc 0 _ rfl,by rw [← add_field _ _ 1 (by omega)];exact hc 1 _ rfl⟩

structure S30 where
 f0:(List ByteArray)
 f1:(List S57)
 f2:Int
def z30:S30:=⟨([]:List ByteArray),([]:List S57),(0:Int)⟩
def k30:Kd S30:=Kd.iso (Kd.pair (Kd.slice 9 Kd.string) (Kd.pair (Kd.slice 57 k57) (Kd.int .i64))) (fun x:S30=>(x.f0,x.f1,x.f2))
theorem k30_open {w:World} {x:S30} {cs:List Value} (h:k30.K w x cs):∃ A0 c0 A1 c1,cs = [.slice A0 x.f0.length c0, .slice A1 x.f1.length c1, .int .i64 x.f2] ∧ x.f0.length ≤ c0 ∧ Kd.string.C w A0 x.f0.length x.f0 ∧ x.f1.length ≤ c1 ∧ k57.C w A1 x.f1.length x.f1:=by
 obtain ⟨_,_,rfl,⟨A0,c0,rfl,l0,g0⟩,⟨_,_,rfl,⟨A1,c1,rfl,l1,g1⟩,rfl⟩⟩:=h
 exact ⟨A0,c0,A1,c1,rfl,l0,g0,l1,g1⟩
theorem k30_openM {w:World} {base:Nat} {ok:Nat → Prop} {x:S30} {cs:List Value} (h:k30.M w base ok x cs):∃ v0 v1,cs = [v0,v1, .int .i64 x.f2] ∧ Kd.string.R 9 w base ok v0 x.f0 ∧ k57.R 57 w base ok v1 x.f1:=by
 obtain ⟨_,_,rfl,⟨v0,rfl,g0⟩,⟨_,_,rfl,⟨v1,rfl,g1⟩,rfl⟩⟩:=h
 exact ⟨v0,v1,rfl,g0,g1⟩
theorem k30_mkM (w:World) (base:Nat) (ok:Nat → Prop) (x:S30) {v0:Value} (g0:Kd.string.R 9 w base ok v0 x.f0) {v1:Value} (g1:k57.R 57 w base ok v1 x.f1):k30.M w base ok x [v0,v1, .int .i64 x.f2]:=⟨[v0],[v1, .int .i64 x.f2],rfl,⟨v0,rfl,g0⟩,⟨[v1],[.int .i64 x.f2],rfl,⟨v1,rfl,g1⟩,rfl⟩⟩
def rd_T30 (xs:List S30) (i:Int):S30:=xs.getD i.toNat z30
theorem at_T30 {w:World} {A:Option Addr} {n:Nat} {xs:List S30} (h:Kd.C k30 w A n xs) (i:Int) (h0:0 ≤ i) (h1:i < n):∃ ad A0 c0 A1 c1,A = some ad ∧ w.cell? (ad.add (i.toNat * 3)) = some (.slice A0 (rd_T30 xs i).f0.length c0) ∧ w.cell? ⟨(ad.add (i.toNat * 3)).block,(ad.add (i.toNat * 3)).off + 1,none⟩ = some (.slice A1 (rd_T30 xs i).f1.length c1) ∧ w.cell? ⟨(ad.add (i.toNat * 3)).block,(ad.add (i.toNat * 3)).off + 2,none⟩ = some (.int .i64 (rd_T30 xs i).f2) ∧ (rd_T30 xs i).f0.length ≤ c0 ∧ Kd.string.C w A0 (rd_T30 xs i).f0.length (rd_T30 xs i).f0 ∧ (rd_T30 xs i).f1.length ≤ c1 ∧ k57.C w A1 (rd_T30 xs i).f1.length (rd_T30 xs i).f1:=by
 obtain ⟨ad,c,e,_,hK,hc0⟩:=Kd.C_get h z30 i h0 h1
 have hc:∀ j u,c[j]? = some u → w.cell? (ad.add (i.toNat * 3 + j)) = some u:=hc0
 obtain ⟨A0,c0,A1,c1,rfl,l0,g0,l1,g1⟩:=k30_open hK
 exact ⟨ad,A0,c0,A1,c1,e,hc 0 _ rfl,by rw [← add_field _ _ 1 (by omega)];exact hc 1 _ rfl,by rw [← add_field _ _ 2 (by omega)];exact hc 2 _ rfl,l0,g0,l1,g1⟩

end Go.Proofs.Ytheakfegchndcaa.P
