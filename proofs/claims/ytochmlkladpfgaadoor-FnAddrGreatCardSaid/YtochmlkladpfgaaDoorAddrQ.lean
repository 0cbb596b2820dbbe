/- What holds of addresses that are read, and gone to: laws of lists of bytes. No program in sight. Condition: none. -/
-- Cut down by a program of this session (wip/tools/prune.py) to what its claim can name.
import Derived.Test.YtochmlkladpfgaaDoorByteP
namespace Go.Proofs.YtochmlkladpfgaaDoor.AddrP
open Go Go.RowKit Go.Proofs.YtochmlkladpfgaaDoor.Lib Go.Proofs.YtochmlkladpfgaaDoor.EscP Go.Proofs.YtochmlkladpfgaaDoor.CutP Go.Proofs.YtochmlkladpfgaaDoor.AddrP
set_option linter.unusedVariables false
set_option linter.unusedSimpArgs false

def greatOf (b:Int):Int:=if 97 ≤ b ∧ b ≤ 122 then b - 32 else b
def stops (b:Int):Bool:=b == 47 || b == 63 || b == 35
/-- Letters up to a stop are great. -/
def greatT:T → T
 | []=>[]
 | b :: r=>if stops b then b :: r else greatOf b :: greatT r
theorem smallOf_great (b:Int):smallOf (greatOf b) = smallOf b:=by
 unfold smallOf greatOf
 repeat' split
 all_goals omega
theorem great_stops (b:Int) (h:stops b = false):(greatOf b = 35 → False) ∧ inHouse (greatOf b) = true ∧ inHouse b = true ∧ b ≠ 35:=by
 unfold stops at h
 simp only [Bool.or_eq_false_iff,beq_eq_false_iff_ne] at h
 obtain ⟨⟨h1,h2⟩,h3⟩:=h
 unfold greatOf inHouse
 split
 ·refine ⟨by omega,?_,by simp [h1,h2],h3⟩
  have:b - 32 ≠ 47 ∧ b - 32 ≠ 63:=by omega
  simp [this]
 ·exact ⟨h3,by simp [h1,h2],by simp [h1,h2],h3⟩
theorem great_cut (p:T):((cutT 35 (greatT p)).1.takeWhile inHouse).map smallOf = ((cutT 35 p).1.takeWhile inHouse).map smallOf ∧ (cutT 35 (greatT p)).1.dropWhile inHouse = (cutT 35 p).1.dropWhile inHouse:=by
 induction p with
 | nil=>exact ⟨rfl,rfl⟩
 | cons b r ih =>
  simp only [greatT]
  by_cases hs:stops b = true
  ·rw [if_pos hs];exact ⟨rfl,rfl⟩
  ·rw [if_neg hs]
   have g:=great_stops b (by simpa using hs)
   simp only [cutT]
   rw [if_neg g.1,if_neg g.2.2.2]
   simp [g.2.1,g.2.2.1,smallOf_great,ih.1,ih.2]
theorem great_len (p:T):(greatT p).length = p.length:=by
 induction p with
 | nil=>rfl
 | cons b r ih=>simp only [greatT];split <;> simp [ih]
theorem read_great {rest:T}:read (47 :: 47 :: greatT rest) = read (47 :: 47 :: rest):=by
 unfold read
 have e:∀ q:T,(cutT 35 (47 :: 47 :: q)).1 = 47 :: 47 :: (cutT 35 q).1:=fun q=>by simp [cutT]
 simp only [List.length_cons,great_len,e,readText]
 split
 ·unfold readWhole
  have:=great_cut rest
  rw [this.1,this.2]
 ·rfl
/-- What is read begins with both strokes. -/
theorem read_strokes {raw:T} {a:Ad} (h:read raw = some a):∃ rest,raw = 47 :: 47 :: rest:=by
 unfold read at h
 split at h
 ·unfold readText at h
  split at h
  ·rename_i rest he
   rcases raw with _|⟨x,_|⟨y,r⟩⟩
   ·cases he
   ·simp only [cutT] at he;split at he <;> simp [cutT] at he
   ·simp only [cutT] at he
    split at he
    ·cases he
    ·split at he
     ·cases he
     ·simp only [List.cons.injEq] at he
      obtain ⟨rfl,rfl,_⟩:=he
      exact ⟨r,rfl⟩
  ·cases h
 ·cases h

end Go.Proofs.YtochmlkladpfgaaDoor.AddrP
