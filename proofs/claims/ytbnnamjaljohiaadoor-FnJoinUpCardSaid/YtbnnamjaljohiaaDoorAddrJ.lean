/- What holds of where one comes from an address: laws of lists of bytes. No program in sight. Condition: none. -/
-- Cut down by a program of this session (wip/tools/prune.py) to what its claim can name.
import Derived.Test.YtbnnamjaljohiaaDoorByteP
namespace Go.Proofs.YtbnnamjaljohiaaDoor.AddrP
open Go Go.RowKit Go.Proofs.YtbnnamjaljohiaaDoor.Lib Go.Proofs.YtbnnamjaljohiaaDoor.EscP Go.Proofs.YtbnnamjaljohiaaDoor.CutP Go.Proofs.YtbnnamjaljohiaaDoor.AddrP
set_option linter.unusedVariables false
set_option linter.unusedSimpArgs false

theorem esc_plain:∀ {s:T},(∀ x ∈ s,plainB x = true) → esc s = some s
 | [],_=>esc_nil
 | b :: r,h=>by
  have hb:=h b (by simp)
  have hh:head1 (b :: r) = some (b,r):=by simp [head1,plain_ne hb]
  rw [esc_some hh,esc_plain (fun x hx=>h x (by simp [hx]))]
  simp [enc,hb]
theorem escN_plain {s:T} (hl:s.length ≤ 60) (h:∀ x ∈ s,plainB x = true):escN s = some s:=by
 unfold escN;rw [if_pos hl,esc_plain h]

theorem joinS_take_len (l:List T):∀ n:Nat,(joinS (l.take n)).length ≤ (joinS l).length:=by
 induction l with
 | nil=>intro n;simp
 | cons p l ih =>
  intro n
  cases n with
  | zero=>simp [joinS]
  | succ n =>
   cases l with
   | nil=>simp
   | cons q r =>
    have:=ih n
    rw [List.take_succ_cons]
    cases n with
    | zero=>simp [joinS]
    | succ n =>
     rw [List.take_succ_cons] at this ⊢
     simp only [joinS,List.length_append,List.length_cons] at this ⊢
     omega
theorem Ok.take {a:Ad} (h:Ok a) (n:Nat):Ok ⟨a.house,a.parts.take n,false,[]⟩:=by
 refine ⟨h.h1,h.h5,h.small,?_,fun p hp=>h.way p (List.mem_of_mem_take hp),fun p hp=>h.nrm p (List.mem_of_mem_take hp),norm_nil, .inr rfl,?_⟩
 ·simp only [List.length_take];have:=h.p5;omega
 ·have h1:=h.len
  have h2:=joinS_take_len a.parts n
  unfold textT pathT askT at h1 ⊢
  simp only [List.length_append,List.length_cons] at h1 ⊢
  simp;omega

theorem readWay_some {house:T} {frm ps:List T} {way a:T} {asks:Bool} (h:wayOf frm way = some (ps,asks,a)) (hk:Ok ⟨house,ps,asks,a⟩):readWay house frm way = some ⟨house,ps,asks,a⟩:=by
 unfold readWay
 rw [h]
 simp only
 rw [if_pos ((ok_iff _).mpr hk)]

theorem wayOf_plain {frm:List T} {w:T} (h63:(63:Int) ∉ w) (h:∀ p ∈ splitT 47 w,escN p = some p):wayOf frm w = some (cleanT (frm ++ splitT 47 w),false,[]):=by
 unfold wayOf
 rw [cutT_none h63]
 simp only
 rw [norm_nil,escAll_norm h]

theorem clean_frm {l:List T} (h:∀ p ∈ l,wayT p = true) (q:List T):cleanT (l ++ q) = q.foldl stepT l:=by rw [cleanT_append,cleanT_ways h]

section
variable {a:Ad} (h:Ok a)
include h
theorem Ok.wayD:∀ p ∈ a.parts.dropLast,wayT p = true:=fun p hp=>h.way p (List.dropLast_subset _ hp)
theorem joinA_text (t:T) (hl:t.length ≤ 60) (hc:(35:Int) ∉ t):joinA a t = joinText a t:=by
 unfold joinA
 rw [if_pos ⟨(ok_iff a).mpr h,hl⟩,cutT_none hc]
theorem join_dot:joinA a [46] = some ⟨a.house,a.parts.dropLast,false,[]⟩:=by
 rw [joinA_text h _ (by simp) (by decide)]
 have hs:splitT 47 [46] = [[46]]:=rfl
 have hw:wayOf a.parts.dropLast [46] = some (a.parts.dropLast,false,[]):=by
  rw [wayOf_plain (by decide) (by rw [hs];intro p hp;simp at hp;subst hp;exact escN_plain (by simp) (by decide)),hs,clean_frm h.wayD]
  rfl
 show readWay a.house a.parts.dropLast [46] = _
 refine readWay_some hw ?_
 rw [List.dropLast_eq_take];exact h.take _
theorem join_dots:joinA a [46,46] = some ⟨a.house,a.parts.dropLast.dropLast,false,[]⟩:=by
 rw [joinA_text h _ (by simp) (by decide)]
 have hs:splitT 47 [46,46] = [[46,46]]:=rfl
 have hw:wayOf a.parts.dropLast [46,46] = some (a.parts.dropLast.dropLast,false,[]):=by
  rw [wayOf_plain (by decide) (by rw [hs];intro p hp;simp at hp;subst hp;exact escN_plain (by simp) (by decide)),hs,clean_frm h.wayD]
  rfl
 show readWay a.house a.parts.dropLast [46,46] = _
 refine readWay_some hw ?_
 have:=h.take (a.parts.length - 1 - 1)
 rw [List.dropLast_eq_take,List.dropLast_eq_take,List.take_take,List.length_take]
 rwa [show min (min (a.parts.length - 1) a.parts.length - 1) (a.parts.length - 1) = a.parts.length - 1 - 1 by omega]
theorem join_door:joinA a [47] = some ⟨a.house,[],false,[]⟩:=by
 rw [joinA_text h _ (by simp) (by decide)]
 have hs:splitT 47 [47] = [[],[]]:=rfl
 have hw:wayOf [] [47] = some ([],false,[]):=by
  rw [wayOf_plain (by decide) (by rw [hs];intro p hp;simp at hp;subst hp;exact norm_nil),hs]
  rfl
 show readWay a.house [] [47] = _
 refine readWay_some hw ?_
 have:=h.take 0
 simpa using this
end

theorem join_ok {a x:Ad} {ref:T} (hx:joinA a ref = some x):Ok x ∧ (x.house = a.house ∨ ∃ r,ref = 47 :: 47 :: r):=by
 unfold joinA at hx
 split at hx
 rotate_left
 ·cases hx
 rename_i hk
 have hc:∀ r,(cutT 35 ref).1 = 47 :: 47 :: r → ∃ r,ref = 47 :: 47 :: r:=by
  intro r e
  have:=(cutT_eq 35 ref).1
  rw [e] at this
  exact ⟨_,this⟩
 unfold joinText at hx
 split at hx
 ·cases hx;exact ⟨(ok_iff _).mp hk.1, .inl rfl⟩
 ·rename_i r e
  exact ⟨readWhole_ok hx, .inr (hc r e)⟩
 ·split at hx
  ·have:=readWay_ok hx;exact ⟨this.1, .inl this.2⟩
  ·split at hx
   ·have:=readWay_ok hx;exact ⟨this.1, .inl this.2⟩
   ·have:=readWay_ok hx;exact ⟨this.1, .inl this.2⟩

end Go.Proofs.YtbnnamjaljohiaaDoor.AddrP
