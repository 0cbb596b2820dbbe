/- Lists of bytes with no program in sight: escapes, cuts, parts of a way, patterns, addresses. Condition: none. -/
-- Cut down by a program of this session (wip/tools/prune.py) to what its claim can name.
import Derived.Test.YtochmlkladpfgaaDoorLib
namespace Go.Proofs.YtochmlkladpfgaaDoor.EscP
open Go Go.RowKit Go.Proofs.YtochmlkladpfgaaDoor.Lib Go.Proofs.YtochmlkladpfgaaDoorW.PrintWords
set_option linter.unusedVariables false
set_option linter.unusedSimpArgs false

def plainB (b:Int):Bool:=(decide (97 ≤ b) && decide (b ≤ 122)) || (decide (48 ≤ b) && decide (b ≤ 57)) || b == 46 || b == 45
/-- A figure of sixteen's worth. -/
def hexv (b:Int):Option Int:=if 48 ≤ b ∧ b ≤ 57 then some (b - 48) else if 65 ≤ b ∧ b ≤ 70 then some (b - 55) else if 97 ≤ b ∧ b ≤ 102 then some (b - 87) else none
/-- The figure of a worth. -/
def fig (d:Int):Int:=if d < 10 then 48 + d else 55 + d
def enc (n:Int):List Int:=if plainB n then [n] else [37,fig (n / 16),fig (n % 16)]
/-- One step: what is meant first, and what is left. -/
def head1:List Int → Option (Int × List Int)
 | []=>none
 | b :: r=>if b = 37 then (match r with
   | h :: l :: r'=>(match hexv h,hexv l with
    | some a,some c=>some (a * 16 + c,r')
    | _,_=>none)
   | _=>none) else some (b,r)
theorem head1_lt {p r:List Int} {n:Int} (h:head1 p = some (n,r)):r.length < p.length:=by
 unfold head1 at h
 repeat' split at h
 all_goals first|cases h;done|(simp only [Option.some.injEq,Prod.mk.injEq] at h;obtain ⟨_,rfl⟩:=h;simp;try omega)
/-- The bytes that are meant. -/
def dec (p:List Int):Option (List Int) :=
 match h:head1 p with
 | none=>if p = [] then some [] else none
 | some (n,r)=>(dec r).map (n :: ·)
termination_by p.length
decreasing_by exact head1_lt h
theorem dec_nil:dec [] = some []:=by rw [dec];rfl
theorem dec_none {p:List Int} (h:head1 p = none) (hp:p ≠ []):dec p = none:=by
 rw [dec];split
 ·rw [if_neg hp]
 ·rename_i h';rw [h] at h';cases h'
theorem dec_some {p r:List Int} {n:Int} (h:head1 p = some (n,r)):dec p = (dec r).map (n :: ·):=by
 rw [dec];split
 ·rename_i h';rw [h] at h';cases h'
 ·rename_i h';rw [h] at h';cases h';rfl
def encs (l:List Int):List Int:=l.flatMap enc
/-- How a text is written. -/
def esc (p:List Int):Option (List Int):=(dec p).map encs
def escN (p:List Int):Option (List Int):=if p.length ≤ 60 then esc p else none

theorem esc_nil:esc [] = some []:=by unfold esc;rw [dec_nil];rfl
theorem esc_none {p:List Int} (h:head1 p = none) (hp:p ≠ []):esc p = none:=by unfold esc;rw [dec_none h hp];rfl
theorem esc_some {p r:List Int} {n:Int} (h:head1 p = some (n,r)):esc p = (esc r).map (enc n ++ ·):=by
 unfold esc;rw [dec_some h]
 cases dec r with
 | none=>rfl
 | some t=>simp [encs]

theorem hexv_bd {b a:Int} (h:hexv b = some a):0 ≤ a ∧ a ≤ 15:=by
 unfold hexv at h
 repeat' split at h
 all_goals first|(cases h;omega)|cases h
theorem fig_bd {d:Int} (h0:0 ≤ d) (h1:d ≤ 15):(48 ≤ fig d ∧ fig d ≤ 57) ∨ (65 ≤ fig d ∧ fig d ≤ 70):=by
 unfold fig;split <;> omega
theorem head1_bd {p r:List Int} {n:Int} (hb:∀ x ∈ p,0 ≤ x ∧ x ≤ 255) (h:head1 p = some (n,r)):(0 ≤ n ∧ n ≤ 255) ∧ ∀ x ∈ r,0 ≤ x ∧ x ≤ 255:=by
 cases p with
 | nil=>cases h
 | cons b t =>
  unfold head1 at h
  simp only at h
  split at h
  ·cases t with
   | nil=>cases h
   | cons x t =>
    cases t with
    | nil=>cases h
    | cons y t =>
     simp only at h
     split at h
     ·rename_i a c ha hc
      cases h
      have:=hexv_bd ha
      have:=hexv_bd hc
      exact ⟨by omega,fun z hz=>hb z (by simp [hz])⟩
     ·cases h
  ·cases h
   exact ⟨hb _ (by simp),fun z hz=>hb z (by simp [hz])⟩

theorem dec_bd:∀ (m:Nat) {p t:List Int},p.length ≤ m → (∀ x ∈ p,0 ≤ x ∧ x ≤ 255) → dec p = some t → (∀ x ∈ t,0 ≤ x ∧ x ≤ 255) ∧ t.length ≤ p.length:=by
 intro m
 induction m with
 | zero =>
  intro p t hm hb h
  obtain rfl:p = []:=List.eq_nil_of_length_eq_zero (by omega)
  rw [dec_nil] at h;cases h;simp
 | succ m ih =>
  intro p t hm hb h
  cases hh:head1 p with
  | none =>
   by_cases hp:p = []
   ·subst hp;rw [dec_nil] at h;cases h;simp
   ·rw [dec_none hh hp] at h;cases h
  | some z =>
   obtain ⟨n,r⟩:=z
   have hl:=head1_lt hh
   have hbd:=head1_bd hb hh
   rw [dec_some hh] at h
   cases hr:dec r with
   | none=>rw [hr] at h;cases h
   | some u =>
    rw [hr] at h;cases h
    have:=ih (by omega) hbd.2 hr
    refine ⟨?_,by simp;omega⟩
    intro x hx
    rcases List.mem_cons.mp hx with rfl|hx
    ·exact hbd.1
    ·exact this.1 x hx

end Go.Proofs.YtochmlkladpfgaaDoor.EscP

namespace Go.Proofs.YtochmlkladpfgaaDoor.CutP
open Go Go.RowKit Go.Proofs.YtochmlkladpfgaaDoor.Lib Go.Proofs.YtochmlkladpfgaaDoorW.PrintWords
set_option linter.unusedVariables false
set_option linter.unusedSimpArgs false

abbrev T:=List Int
/-- Cut at the first byte of a kind. -/
def cutT (c:Int):T → T × T × Bool
 | []=>([],[],false)
 | b :: r=>if b = c then ([],r,true) else (b :: (cutT c r).1,(cutT c r).2.1,(cutT c r).2.2)
/-- Cut at each byte of a kind. -/
def splitT (c:Int):T → List T
 | []=>[[]]
 | b :: r=>if b = c then [] :: splitT c r else (b :: (splitT c r).headD []) :: (splitT c r).tail
/-- A text is what is ahead of the cut, and, if there is one, what is behind it. -/
theorem cutT_eq (c:Int) (p:T):p = (cutT c p).1 ++ (if (cutT c p).2.2 then c :: (cutT c p).2.1 else []) ∧ ((cutT c p).2.2 = false → (cutT c p).2.1 = []):=by
 induction p with
 | nil=>simp [cutT]
 | cons b r ih =>
  simp only [cutT]
  split
  ·rename_i h;simp [h]
  ·refine ⟨?_,ih.2⟩
   simp only [List.cons_append]
   rw [← ih.1]
theorem splitT_cut (c:Int) (p:T):splitT c p = if (cutT c p).2.2 then (cutT c p).1 :: splitT c (cutT c p).2.1 else [(cutT c p).1]:=by
 induction p with
 | nil=>rfl
 | cons b r ih =>
  simp only [splitT,cutT]
  split
  ·rfl
  ·rw [ih]
   split <;> rfl
theorem cutT_lt {c:Int} {p:T} (h:(cutT c p).2.2 = true):(cutT c p).2.1.length < p.length:=by
 have:=(cutT_eq c p).1
 rw [if_pos h] at this
 have:=congrArg List.length this
 simp at this;omega
theorem splitT_len (c:Int) (p:T):(splitT c p).length ≤ p.length + 1:=by
 induction p with
 | nil=>simp [splitT]
 | cons b r ih =>
  simp only [splitT]
  split
  ·simp;omega
  ·simp only [List.length_cons,List.length_tail];omega
end Go.Proofs.YtochmlkladpfgaaDoor.CutP

namespace Go.Proofs.YtochmlkladpfgaaDoor.PathP
open Go Go.RowKit Go.Proofs.YtochmlkladpfgaaDoor.Lib Go.Proofs.YtochmlkladpfgaaDoorW.PrintWords
set_option linter.unusedVariables false
set_option linter.unusedSimpArgs false

/-- Nothing is said by a part. -/
def Idle (p:ByteArray):Prop:=L p = [] ∨ L p = [46]
def Up (p:ByteArray):Prop:=L p = [46,46]
instance (p:ByteArray):Decidable (Idle p):=inferInstanceAs (Decidable (_ ∨ _))
instance (p:ByteArray):Decidable (Up p):=inferInstanceAs (Decidable (_ = _))
def stepP (out:List ByteArray) (p:ByteArray):List ByteArray:=if Idle p then out else if Up p then out.dropLast else out ++ [p]
def clean (l:List ByteArray):List ByteArray:=l.foldl stepP []
def Way (p:ByteArray):Prop:=¬ Idle p ∧ ¬ Up p

theorem stepP_way {out:List ByteArray} {p:ByteArray} (h:Way p):stepP out p = out ++ [p]:=by
 unfold stepP;rw [if_neg h.1,if_neg h.2]
theorem stepP_idle {out:List ByteArray} {p:ByteArray} (h:Idle p):stepP out p = out:=by
 unfold stepP;rw [if_pos h]
theorem up_not_idle {p:ByteArray} (h:Up p):¬ Idle p:=by
 unfold Up at h;unfold Idle;rw [h];simp
theorem stepP_up {out:List ByteArray} {p:ByteArray} (h:Up p):stepP out p = out.dropLast:=by
 unfold stepP;rw [if_neg (up_not_idle h),if_pos h]

end Go.Proofs.YtochmlkladpfgaaDoor.PathP

namespace Go.Proofs.YtochmlkladpfgaaDoor.MatchP
open Go Go.RowKit Go.Proofs.YtochmlkladpfgaaDoor.Lib Go.Proofs.YtochmlkladpfgaaDoor.CutP Go.Proofs.YtochmlkladpfgaaDoorW.PrintWords
set_option linter.unusedVariables false
set_option linter.unusedSimpArgs false

/-- Of a text, or of one that it ends with. -/
def star (f:T → Bool):T → Bool
 | []=>f []
 | x :: t=>f (x :: t) || star f t
/-- Just of the pattern. -/
def mat:T → T → Bool
 | []=>fun s=>s.isEmpty
 | c :: p=>fun s=>if c = 42 then star (mat p) s else (match s with
  | []=>false
  | x :: t=>x == c && mat p t)

def endsT (p:T):Bool:=decide (p.getLast? = some 36)
def bodyT (p:T):T:=if endsT p then p.dropLast else p
def has (p s:T):Bool:=if endsT p then mat (bodyT p) s else mat (bodyT p ++ [42]) s

end Go.Proofs.YtochmlkladpfgaaDoor.MatchP

namespace Go.Proofs.YtochmlkladpfgaaDoor.AddrP
open Go Go.RowKit Go.Proofs.YtochmlkladpfgaaDoor.Lib Go.Proofs.YtochmlkladpfgaaDoor.EscP Go.Proofs.YtochmlkladpfgaaDoor.CutP
set_option linter.unusedVariables false
set_option linter.unusedSimpArgs false

structure Ad where
 house:T
 parts:List T
 asks:Bool
 ask:T
def smallB (b:Int):Bool:=decide (97 ≤ b) && decide (b ≤ 122)
def houseOk (h:T):Bool:=decide (1 ≤ h.length) && decide (h.length ≤ 5) && h.all smallB
def norm (s:T):Bool:=decide (escN s = some s)
def idleT (p:T):Bool:=p == [] || p == [46]
def upT (p:T):Bool:=p == [46,46]
def wayT (p:T):Bool:=!idleT p && !upT p
def joinS:List T → T
 | []=>[]
 | [p]=>p
 | p :: q :: r=>p ++ 47 :: joinS (q :: r)
def askT (a:Ad):T:=if a.asks then 63 :: a.ask else []
def pathT (a:Ad):T:=47 :: joinS a.parts ++ askT a
def textT (a:Ad):T:=47 :: 47 :: a.house ++ pathT a
def ok (a:Ad):Bool:=houseOk a.house && decide (a.parts.length ≤ 5) && a.parts.all (fun p=>wayT p && norm p) && norm a.ask && (a.asks || decide (a.ask = [])) && decide ((textT a).length ≤ 60)
def stepT (out:List T) (p:T):List T:=if idleT p then out else if upT p then out.dropLast else out ++ [p]
def cleanT (l:List T):List T:=l.foldl stepT []
def escAll (l:List T):Option (List T):=l.mapM escN
/-- A way, from some parts on. -/
def wayOf (frm:List T) (way:T):Option (List T × Bool × T) :=
 match escN (cutT 63 way).2.1,escAll (splitT 47 (cutT 63 way).1) with
 | some a,some ps=>some (cleanT (frm ++ ps),(cutT 63 way).2.2,a)
 | _,_=>none
def readWay (house:T) (frm:List T) (way:T):Option Ad :=
 match wayOf frm way with
 | some (ps,asks,a)=>if ok ⟨house,ps,asks,a⟩ then some ⟨house,ps,asks,a⟩ else none
 | none=>none
def smallOf (b:Int):Int:=if 65 ≤ b ∧ b ≤ 90 then b + 32 else b
def inHouse (b:Int):Bool:=!(b == 47 || b == 63)
def readWhole (rest:T):Option Ad:=readWay ((rest.takeWhile inHouse).map smallOf) [] (rest.dropWhile inHouse)
def readText (t:T):Option Ad :=
 match t with
 | 47 :: 47 :: rest=>readWhole rest
 | _=>none
def read (raw:T):Option Ad:=if raw.length ≤ 60 then readText (cutT 35 raw).1 else none
theorem stepT_idle {out:List T} {p:T} (h:idleT p = true):stepT out p = out:=by unfold stepT;rw [if_pos h]
theorem norm_eq {s:T}:norm s = true ↔ escN s = some s:=by unfold norm;simp
structure Ok (a:Ad):Prop where
 h1:1 ≤ a.house.length
 h5:a.house.length ≤ 5
 small:∀ b ∈ a.house,97 ≤ b ∧ b ≤ 122
 p5:a.parts.length ≤ 5
 way:∀ p ∈ a.parts,wayT p = true
 nrm:∀ p ∈ a.parts,escN p = some p
 nask:escN a.ask = some a.ask
 asks:a.asks = true ∨ a.ask = []
 len:(textT a).length ≤ 60
theorem ok_iff (a:Ad):ok a = true ↔ Ok a:=by
 unfold ok houseOk
 simp only [Bool.and_eq_true,decide_eq_true_eq,List.all_eq_true,Bool.or_eq_true,norm_eq,smallB]
 constructor
 ·rintro ⟨⟨⟨⟨⟨⟨⟨a1,a2⟩,a3⟩,a4⟩,a5⟩,a6⟩,a7⟩,a8⟩
  exact ⟨a1,a2,a3,a4,fun p hp=>(a5 p hp).1,fun p hp=>(a5 p hp).2,a6,a7,a8⟩
 ·rintro ⟨a1,a2,a3,a4,a5,a5',a6,a7,a8⟩
  exact ⟨⟨⟨⟨⟨⟨⟨a1,a2⟩,a3⟩,a4⟩,fun p hp=>⟨a5 p hp,a5' p hp⟩⟩,a6⟩,a7⟩,a8⟩

theorem readWay_ok {house:T} {frm:List T} {way:T} {a:Ad} (h:readWay house frm way = some a):Ok a ∧ a.house = house:=by
 unfold readWay at h
 split at h
 ·split at h
  ·rename_i hk;cases h;exact ⟨(ok_iff _).mp hk,rfl⟩
  ·cases h
 ·cases h
theorem readWhole_ok {rest:T} {a:Ad} (h:readWhole rest = some a):Ok a:=(readWay_ok h).1
theorem readText_ok {t:T} {a:Ad} (h:readText t = some a):Ok a:=by
 unfold readText at h
 split at h
 ·exact readWhole_ok h
 ·cases h
theorem read_ok {raw:T} {a:Ad} (h:read raw = some a):Ok a:=by
 unfold read at h
 split at h
 ·exact readText_ok h
 ·cases h

end Go.Proofs.YtochmlkladpfgaaDoor.AddrP
