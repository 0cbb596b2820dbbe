/- What holds of where one comes from an address: laws of lists of bytes. No program in sight. Condition: none. -/
-- Cut down by a program of this session (wip/tools/prune.py) to what its claim can name.
import Derived.Test.YtbnnamjaljohiaaDoorAddrQ
namespace Go.Proofs.YtbnnamjaljohiaaDoor.AddrP
open Go Go.RowKit Go.Proofs.YtbnnamjaljohiaaDoor.Lib Go.Proofs.YtbnnamjaljohiaaDoor.EscP Go.Proofs.YtbnnamjaljohiaaDoor.CutP Go.Proofs.YtbnnamjaljohiaaDoor.AddrP
set_option linter.unusedVariables false
set_option linter.unusedSimpArgs false

theorem esc_plain:∀ {s:T},(∀ x ∈ s,plainB x = true) → esc s = some s
 | [],_=>esc_nil
 | b :: r,h=>by
  have hb:=h b (by simp)
  have hh:head1 (b :: r) = some (b,r):=by simp [head1,plain_ne hb]
  rw [esc_some hh,esc_plain (fun x hx=>h x (by simp [hx]))]
  simp [enc,hb]
theorem escN_plain {s:T} (hl:s.length ≤ 60) (h:∀ x ∈ s,plainB x = true):escN s = some s:=by
 unfold escN;rw [if_pos hl,esc_plain h]

theorem joinS_take_len (l:List T):∀ n:Nat,(joinS (l.take n)).length ≤ (joinS l).length:=by
 induction l with
 | nil=>intro n;simp
 | cons p l ih =>
  intro n
  cases n with
  | zero=>simp [joinS]
  | succ n =>
   cases l with
   | nil=>simp
   | cons q r =>
    have:=ih n
    rw [List.take_succ_cons]
    cases n with
    | zero=>simp [joinS]
    | succ n =>
     rw [List.take_succ_cons] at this ⊢
     simp only [joinS,List.length_append,List.length_cons] at this ⊢
     omega
theorem Ok.take {a:Ad} (h:Ok a) (n:Nat):Ok ⟨a.house,a.parts.take n,false,[]⟩:=by
 refine ⟨h.h1,h.h5,h.small,?_,fun p hp=>h.way p (List.mem_of_mem_take hp),fun p hp=>h.nrm p (List.mem_of_mem_take hp),norm_nil, .inr rfl,?_⟩
 ·simp only [List.length_take];have:=h.p5;omega
 ·have h1:=h.len
  have h2:=joinS_take_len a.parts n
  unfold textT pathT askT at h1 ⊢
  simp only [List.length_append,List.length_cons] at h1 ⊢
  simp;omega

section
variable {a:Ad} (h:Ok a)
include h
end

end Go.Proofs.YtbnnamjaljohiaaDoor.AddrP
