/- Lists of bytes with no program in sight: escapes, cuts, parts of a way, patterns, addresses. Condition: none. -/
-- Cut down by a program of this session (wip/tools/prune.py) to what its claim can name.
import Derived.Test.YtheakfegchndcaaLib
namespace Go.Proofs.Ytheakfegchndcaa.EscP
open Go Go.RowKit Go.Proofs.Ytheakfegchndcaa.Lib Go.Proofs.YtheakfegchndcaaW.PrintWords
set_option linter.unusedVariables false
set_option linter.unusedSimpArgs false

def plainB (b : Int) : Bool := (decide (97 ≤ b) && decide (b ≤ 122)) || (decide (48 ≤ b) && decide (b ≤ 57)) || b == 46 || b == 45
/-- A figure of sixteen's worth. -/
def hexv (b : Int) : Option Int := if 48 ≤ b ∧ b ≤ 57 then some (b - 48) else if 65 ≤ b ∧ b ≤ 70 then some (b - 55) else if 97 ≤ b ∧ b ≤ 102 then some (b - 87) else none
/-- The figure of a worth. -/
def fig (d : Int) : Int := if d < 10 then 48 + d else 55 + d
def enc (n : Int) : List Int := if plainB n then [n] else [37, fig (n / 16), fig (n % 16)]
/-- One step: what is meant first, and what is left. -/
def head1 : List Int → Option (Int × List Int)
  | [] => none
  | b :: r => if b = 37 then (match r with
      | h :: l :: r' => (match hexv h, hexv l with
        | some a, some c => some (a * 16 + c, r')
        | _, _ => none)
      | _ => none) else some (b, r)
theorem head1_lt {p r : List Int} {n : Int} (h : head1 p = some (n, r)) : r.length < p.length := by
  unfold head1 at h
  repeat' split at h
  all_goals first | cases h; done | (simp only [Option.some.injEq, Prod.mk.injEq] at h; obtain ⟨_, rfl⟩ := h; simp; try omega)
/-- The bytes that are meant. -/
def dec (p : List Int) : Option (List Int) :=
  match h : head1 p with
  | none => if p = [] then some [] else none
  | some (n, r) => (dec r).map (n :: ·)
termination_by p.length
decreasing_by exact head1_lt h
def encs (l : List Int) : List Int := l.flatMap enc
/-- How a text is written. -/
def esc (p : List Int) : Option (List Int) := (dec p).map encs
def escN (p : List Int) : Option (List Int) := if p.length ≤ 60 then esc p else none

end Go.Proofs.Ytheakfegchndcaa.EscP

namespace Go.Proofs.Ytheakfegchndcaa.CutP
open Go Go.RowKit Go.Proofs.Ytheakfegchndcaa.Lib Go.Proofs.YtheakfegchndcaaW.PrintWords
set_option linter.unusedVariables false
set_option linter.unusedSimpArgs false

abbrev T := List Int
/-- Cut at the first byte of a kind. -/
def cutT (c : Int) : T → T × T × Bool
  | [] => ([], [], false)
  | b :: r => if b = c then ([], r, true) else (b :: (cutT c r).1, (cutT c r).2.1, (cutT c r).2.2)
/-- Cut at each byte of a kind. -/
def splitT (c : Int) : T → List T
  | [] => [[]]
  | b :: r => if b = c then [] :: splitT c r else (b :: (splitT c r).headD []) :: (splitT c r).tail
end Go.Proofs.Ytheakfegchndcaa.CutP

namespace Go.Proofs.Ytheakfegchndcaa.PathP
open Go Go.RowKit Go.Proofs.Ytheakfegchndcaa.Lib Go.Proofs.YtheakfegchndcaaW.PrintWords
set_option linter.unusedVariables false
set_option linter.unusedSimpArgs false

/-- Nothing is said by a part. -/
def Idle (p : ByteArray) : Prop := L p = [] ∨ L p = [46]
def Up (p : ByteArray) : Prop := L p = [46, 46]
instance (p : ByteArray) : Decidable (Idle p) := inferInstanceAs (Decidable (_ ∨ _))
instance (p : ByteArray) : Decidable (Up p) := inferInstanceAs (Decidable (_ = _))
end Go.Proofs.Ytheakfegchndcaa.PathP

namespace Go.Proofs.Ytheakfegchndcaa.MatchP
open Go Go.RowKit Go.Proofs.Ytheakfegchndcaa.Lib Go.Proofs.Ytheakfegchndcaa.CutP Go.Proofs.YtheakfegchndcaaW.PrintWords
set_option linter.unusedVariables false
set_option linter.unusedSimpArgs false

/-- Of a text, or of one that it ends with. -/
def star (f : T → Bool) : T → Bool
  | [] => f []
  | x :: t => f (x :: t) || star f t
/-- Just of the pattern. -/
def mat : T → T → Bool
  | [] => fun s => s.isEmpty
  | c :: p => fun s => if c = 42 then star (mat p) s else (match s with
    | [] => false
    | x :: t => x == c && mat p t)

def endsT (p : T) : Bool := decide (p.getLast? = some 36)
def bodyT (p : T) : T := if endsT p then p.dropLast else p
def has (p s : T) : Bool := if endsT p then mat (bodyT p) s else mat (bodyT p ++ [42]) s

end Go.Proofs.Ytheakfegchndcaa.MatchP

namespace Go.Proofs.Ytheakfegchndcaa.AddrP
open Go Go.RowKit Go.Proofs.Ytheakfegchndcaa.Lib Go.Proofs.Ytheakfegchndcaa.EscP Go.Proofs.Ytheakfegchndcaa.CutP
set_option linter.unusedVariables false
set_option linter.unusedSimpArgs false

structure Ad where
  house : T
  parts : List T
  asks : Bool
  ask : T
def smallB (b : Int) : Bool := decide (97 ≤ b) && decide (b ≤ 122)
def houseOk (h : T) : Bool := decide (1 ≤ h.length) && decide (h.length ≤ 5) && h.all smallB
def norm (s : T) : Bool := decide (escN s = some s)
def idleT (p : T) : Bool := p == [] || p == [46]
def upT (p : T) : Bool := p == [46, 46]
def wayT (p : T) : Bool := !idleT p && !upT p
def joinS : List T → T
  | [] => []
  | [p] => p
  | p :: q :: r => p ++ 47 :: joinS (q :: r)
def askT (a : Ad) : T := if a.asks then 63 :: a.ask else []
def pathT (a : Ad) : T := 47 :: joinS a.parts ++ askT a
def textT (a : Ad) : T := 47 :: 47 :: a.house ++ pathT a
def ok (a : Ad) : Bool := houseOk a.house && decide (a.parts.length ≤ 5) && a.parts.all (fun p => wayT p && norm p) && norm a.ask && (a.asks || decide (a.ask = [])) && decide ((textT a).length ≤ 60)
def stepT (out : List T) (p : T) : List T := if idleT p then out else if upT p then out.dropLast else out ++ [p]
def cleanT (l : List T) : List T := l.foldl stepT []
def escAll (l : List T) : Option (List T) := l.mapM escN
/-- A way, from some parts on. -/
def wayOf (frm : List T) (way : T) : Option (List T × Bool × T) :=
  match escN (cutT 63 way).2.1, escAll (splitT 47 (cutT 63 way).1) with
  | some a, some ps => some (cleanT (frm ++ ps), (cutT 63 way).2.2, a)
  | _, _ => none
def readWay (house : T) (frm : List T) (way : T) : Option Ad :=
  match wayOf frm way with
  | some (ps, asks, a) => if ok ⟨house, ps, asks, a⟩ then some ⟨house, ps, asks, a⟩ else none
  | none => none
def smallOf (b : Int) : Int := if 65 ≤ b ∧ b ≤ 90 then b + 32 else b
def inHouse (b : Int) : Bool := !(b == 47 || b == 63)
def readWhole (rest : T) : Option Ad := readWay ((rest.takeWhile inHouse).map smallOf) [] (rest.dropWhile inHouse)
def readText (t : T) : Option Ad :=
  match t with
  | 47 :: 47 :: rest => readWhole rest
  | _ => none
def read (raw : T) : Option Ad := if raw.length ≤ 60 then readText (cutT 35 raw).1 else none
structure Ok (a : Ad) : Prop where
  h1 : 1 ≤ a.house.length
  h5 : a.house.length ≤ 5
  small : ∀ b ∈ a.house, 97 ≤ b ∧ b ≤ 122
  p5 : a.parts.length ≤ 5
  way : ∀ p ∈ a.parts, wayT p = true
  nrm : ∀ p ∈ a.parts, escN p = some p
  nask : escN a.ask = some a.ask
  asks : a.asks = true ∨ a.ask = []
  len : (textT a).length ≤ 60
end Go.Proofs.Ytheakfegchndcaa.AddrP
