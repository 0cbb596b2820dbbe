/- What holds of where one comes from an address: laws of lists of bytes. No program in sight. Condition: none. -/
-- Cut down by a program of this session (wip/tools/prune.py) to what its claim can name.
import Derived.Test.YtbnnamjaljohiaaDoorByteP
namespace Go.Proofs.YtbnnamjaljohiaaDoor.AddrP
open Go Go.RowKit Go.Proofs.YtbnnamjaljohiaaDoor.Lib Go.Proofs.YtbnnamjaljohiaaDoor.EscP Go.Proofs.YtbnnamjaljohiaaDoor.CutP Go.Proofs.YtbnnamjaljohiaaDoor.AddrP
set_option linter.unusedVariables false
set_option linter.unusedSimpArgs false

theorem esc_plain:∀ {s:T},(∀ x ∈ s,plainB x = true) → esc s = some s
 | [],_=>esc_nil
 | b :: r,h=>by
  have hb:=h b (by simp)
  have hh:head1 (b :: r) = some (b,r):=by simp [head1,plain_ne hb]
  rw [esc_some hh,esc_plain (fun x hx=>h x (by simp [hx]))]
  simp [enc,hb]
theorem escN_plain {s:T} (hl:s.length ≤ 60) (h:∀ x ∈ s,plainB x = true):escN s = some s:=by
 unfold escN;rw [if_pos hl,esc_plain h]

theorem joinS_take_len (l:List T):∀ n:Nat,(joinS (l.take n)).length ≤ (joinS l).length:=by
 induction l with
 | nil=>intro n;simp
 | cons p l ih =>
  intro n
  cases n with
  | zero=>simp [joinS]
  | succ n =>
   cases l with
   | nil=>simp
   | cons q r =>
    have:=ih n
    rw [List.take_succ_cons]
    cases n with
    | zero=>simp [joinS]
    | succ n =>
     rw [List.take_succ_cons] at this ⊢
     simp only [joinS,List.length_append,List.length_cons] at this ⊢
     omega
theorem Ok.take {a:Ad} (h:Ok a) (n:Nat):Ok ⟨a.house,a.parts.take n,false,[]⟩:=by
 refine ⟨h.h1,h.h5,h.small,?_,fun p hp=>h.way p (List.mem_of_mem_take hp),fun p hp=>h.nrm p (List.mem_of_mem_take hp),norm_nil, .inr rfl,?_⟩
 ·simp only [List.length_take];have:=h.p5;omega
 ·have h1:=h.len
  have h2:=joinS_take_len a.parts n
  unfold textT pathT askT at h1 ⊢
  simp only [List.length_append,List.length_cons] at h1 ⊢
  simp;omega

theorem wayOf_plain {frm:List T} {w:T} (h63:(63:Int) ∉ w) (h:∀ p ∈ splitT 47 w,escN p = some p):wayOf frm w = some (cleanT (frm ++ splitT 47 w),false,[]):=by
 unfold wayOf
 rw [cutT_none h63]
 simp only
 rw [norm_nil,escAll_norm h]

theorem clean_frm {l:List T} (h:∀ p ∈ l,wayT p = true) (q:List T):cleanT (l ++ q) = q.foldl stepT l:=by rw [cleanT_append,cleanT_ways h]

section
variable {a:Ad} (h:Ok a)
include h
theorem Ok.wayD:∀ p ∈ a.parts.dropLast,wayT p = true:=fun p hp=>h.way p (List.dropLast_subset _ hp)
theorem joinA_text (t:T) (hl:t.length ≤ 60) (hc:(35:Int) ∉ t):joinA a t = joinText a t:=by
 unfold joinA
 rw [if_pos ⟨(ok_iff a).mpr h,hl⟩,cutT_none hc]
theorem way_q:wayOf a.parts.dropLast [113] = some (a.parts.dropLast ++ [[113]],false,[]):=by
 have hs:splitT 47 [113] = [[113]]:=rfl
 rw [wayOf_plain (by decide) (by rw [hs];intro p hp;simp at hp;subst hp;exact escN_plain (by simp) (by decide)),hs,clean_frm h.wayD]
 rfl
theorem way_q2:wayOf a.parts.dropLast [46,47,119,47,46,46,47,113] = some (a.parts.dropLast ++ [[113]],false,[]):=by
 have hs:splitT 47 [46,47,119,47,46,46,47,113] = [[46],[119],[46,46],[113]]:=rfl
 rw [wayOf_plain (by decide) (by
  rw [hs];intro p hp
  simp only [List.mem_cons,List.not_mem_nil,or_false] at hp
  rcases hp with rfl|rfl|rfl|rfl <;> exact escN_plain (by simp) (by decide)),hs,clean_frm h.wayD]
 have e:∀ o:List T,[[46],[119],[46,46],[113]].foldl stepT o = (o ++ [[119]]).dropLast ++ [[113]]:=fun o=>rfl
 rw [e,List.dropLast_concat]
theorem join_beside:joinA a [113] = joinA a [46,47,119,47,46,46,47,113] ∧ ∀ x,joinA a [113] = some x → x = ⟨a.house,a.parts.dropLast ++ [[113]],false,[]⟩:=by
 rw [joinA_text h _ (by simp) (by decide),joinA_text h _ (by simp) (by decide)]
 have e1:joinText a [113] = readWay a.house a.parts.dropLast [113]:=rfl
 have e2:joinText a [46,47,119,47,46,46,47,113] = readWay a.house a.parts.dropLast [46,47,119,47,46,46,47,113]:=rfl
 rw [e1,e2]
 unfold readWay
 rw [way_q h,way_q2 h]
 refine ⟨rfl,fun x hx=>?_⟩
 simp only at hx
 split at hx
 ·cases hx;rfl
 ·cases hx
end

theorem join_ok {a x:Ad} {ref:T} (hx:joinA a ref = some x):Ok x ∧ (x.house = a.house ∨ ∃ r,ref = 47 :: 47 :: r):=by
 unfold joinA at hx
 split at hx
 rotate_left
 ·cases hx
 rename_i hk
 have hc:∀ r,(cutT 35 ref).1 = 47 :: 47 :: r → ∃ r,ref = 47 :: 47 :: r:=by
  intro r e
  have:=(cutT_eq 35 ref).1
  rw [e] at this
  exact ⟨_,this⟩
 unfold joinText at hx
 split at hx
 ·cases hx;exact ⟨(ok_iff _).mp hk.1, .inl rfl⟩
 ·rename_i r e
  exact ⟨readWhole_ok hx, .inr (hc r e)⟩
 ·split at hx
  ·have:=readWay_ok hx;exact ⟨this.1, .inl this.2⟩
  ·split at hx
   ·have:=readWay_ok hx;exact ⟨this.1, .inl this.2⟩
   ·have:=readWay_ok hx;exact ⟨this.1, .inl this.2⟩

end Go.Proofs.YtbnnamjaljohiaaDoor.AddrP
