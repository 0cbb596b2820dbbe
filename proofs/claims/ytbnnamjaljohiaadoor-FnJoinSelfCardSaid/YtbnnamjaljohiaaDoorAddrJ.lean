/- What holds of where one comes from an address: laws of lists of bytes. No program in sight. Condition: none. -/
-- Cut down by a program of this session (wip/tools/prune.py) to what its claim can name.
import Derived.Test.YtbnnamjaljohiaaDoorByteP
namespace Go.Proofs.YtbnnamjaljohiaaDoor.AddrP
open Go Go.RowKit Go.Proofs.YtbnnamjaljohiaaDoor.Lib Go.Proofs.YtbnnamjaljohiaaDoor.EscP Go.Proofs.YtbnnamjaljohiaaDoor.CutP Go.Proofs.YtbnnamjaljohiaaDoor.AddrP
set_option linter.unusedVariables false
set_option linter.unusedSimpArgs false

theorem path_len (a:Ad):(pathT a).length + 2 + a.house.length = (textT a).length:=by
 unfold textT;simp;omega
theorem joinS_take_len (l:List T):∀ n:Nat,(joinS (l.take n)).length ≤ (joinS l).length:=by
 induction l with
 | nil=>intro n;simp
 | cons p l ih =>
  intro n
  cases n with
  | zero=>simp [joinS]
  | succ n =>
   cases l with
   | nil=>simp
   | cons q r =>
    have:=ih n
    rw [List.take_succ_cons]
    cases n with
    | zero=>simp [joinS]
    | succ n =>
     rw [List.take_succ_cons] at this ⊢
     simp only [joinS,List.length_append,List.length_cons] at this ⊢
     omega
theorem Ok.take {a:Ad} (h:Ok a) (n:Nat):Ok ⟨a.house,a.parts.take n,false,[]⟩:=by
 refine ⟨h.h1,h.h5,h.small,?_,fun p hp=>h.way p (List.mem_of_mem_take hp),fun p hp=>h.nrm p (List.mem_of_mem_take hp),norm_nil, .inr rfl,?_⟩
 ·simp only [List.length_take];have:=h.p5;omega
 ·have h1:=h.len
  have h2:=joinS_take_len a.parts n
  unfold textT pathT askT at h1 ⊢
  simp only [List.length_append,List.length_cons] at h1 ⊢
  simp;omega

section
variable {a:Ad} (h:Ok a)
include h
theorem joinA_text (t:T) (hl:t.length ≤ 60) (hc:(35:Int) ∉ t):joinA a t = joinText a t:=by
 unfold joinA
 rw [if_pos ⟨(ok_iff a).mpr h,hl⟩,cutT_none hc]
theorem join_nil:joinA a [] = some a:=by
 rw [joinA_text h _ (by simp) (by simp)];rfl
theorem join_there (q:T) (hq:q.length ≤ 59):joinA a (35 :: q) = some a:=by
 unfold joinA
 rw [if_pos ⟨(ok_iff a).mpr h,by simp;omega⟩]
 rfl
theorem join_path (hr:RngA a):joinA a (pathT a) = some a:=by
 rw [joinA_text h _ (by have:=path_len a;have:=h.len;omega) (no_cross h hr)]
 have hb:=readWay_back h hr
 have he:pathT a = 47 :: (joinS a.parts ++ askT a):=rfl
 have hn:∀ r,joinS a.parts ++ askT a ≠ 47 :: r:=by
  intro r e
  rcases hp:a.parts with _|⟨p,l⟩
  ·rw [hp] at e
   unfold askT at e
   simp only [joinS,List.nil_append] at e
   split at e
   ·cases e
   ·cases e
  ·have hw:=h.way p (by rw [hp];simp)
   have ht:=h.tameP hr p (by rw [hp];simp)
   rcases p with _|⟨b,p⟩
   ·cases hw
   ·rw [hp] at e
    have hb:b = 47:=by
     cases l with
     | nil=>simp only [joinS,List.cons_append] at e;injection e
     | cons q r=>simp only [joinS,List.cons_append,List.append_assoc] at e;injection e
    have:=ht b (by simp)
    rw [hb] at this;cases this
 rw [he] at hb ⊢
 unfold joinText
 split
 ·rename_i e;cases e
 ·rename_i r e
  injection e with _ e
  exact absurd e (hn r)
 ·rename_i b r _ e
  cases e
  rw [if_pos rfl];exact hb
end

theorem join_ok {a x:Ad} {ref:T} (hx:joinA a ref = some x):Ok x ∧ (x.house = a.house ∨ ∃ r,ref = 47 :: 47 :: r):=by
 unfold joinA at hx
 split at hx
 rotate_left
 ·cases hx
 rename_i hk
 have hc:∀ r,(cutT 35 ref).1 = 47 :: 47 :: r → ∃ r,ref = 47 :: 47 :: r:=by
  intro r e
  have:=(cutT_eq 35 ref).1
  rw [e] at this
  exact ⟨_,this⟩
 unfold joinText at hx
 split at hx
 ·cases hx;exact ⟨(ok_iff _).mp hk.1, .inl rfl⟩
 ·rename_i r e
  exact ⟨readWhole_ok hx, .inr (hc r e)⟩
 ·split at hx
  ·have:=readWay_ok hx;exact ⟨this.1, .inl this.2⟩
  ·split at hx
   ·have:=readWay_ok hx;exact ⟨this.1, .inl this.2⟩
   ·have:=readWay_ok hx;exact ⟨this.1, .inl this.2⟩

end Go.Proofs.YtbnnamjaljohiaaDoor.AddrP
