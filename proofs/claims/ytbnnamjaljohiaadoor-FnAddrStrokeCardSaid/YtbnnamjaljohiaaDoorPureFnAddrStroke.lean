/- Strokes and lone dots at the end of a way are nothing. Condition: none. -/
-- Cut down by a program of this session (wip/tools/prune.py) to what its claim can name.
import Derived.Test.YtbnnamjaljohiaaDoorPx6
import Derived.Test.YtbnnamjaljohiaaDoorPx9
import Derived.Test.YtbnnamjaljohiaaDoorReadB
import Derived.Test.YtbnnamjaljohiaaDoorDrawT
import Derived.Test.YtbnnamjaljohiaaDoorAddrJ
namespace Go.Proofs.YtbnnamjaljohiaaDoor.Pure
open Go hiding stepT
open Go.RowKit Go.Proofs.YtbnnamjaljohiaaDoor.P Go.Proofs.YtbnnamjaljohiaaDoor.Lib Go.Proofs.YtbnnamjaljohiaaDoor.CutP Go.Proofs.YtbnnamjaljohiaaDoor.AddrP Go.Proofs.YtbnnamjaljohiaaDoor.AddrF Go.Proofs.YtbnnamjaljohiaaDoor.AddrR Go.Proofs.YtbnnamjaljohiaaDoor.DrawA Go.Proofs.YtbnnamjaljohiaaDoor.ReadB Go.Proofs.YtbnnamjaljohiaaDoorW.PrintWords Go.Proofs.YtbnnamjaljohiaaDoorW.PrintLast
set_option linter.unusedVariables false
set_option linter.unusedSimpArgs false

theorem bare_loop (s:ByteArray) (hs:s.size ≤ 1000000) (d:Nat):∀ i:Int,0 ≤ i → i ≤ s.size → (s.size:Int) - i ≤ d →
  ∃ r,Ev (fun k=>laws_lpBare.l0 k s i) r ∧ (r = true → (35:Int) ∉ (L s).drop i.toNat ∧ (63:Int) ∉ (L s).drop i.toNat):=by
 have hend:∀ i:Int,¬ i < (s.size:Int) → 0 ≤ i → ∃ r,Ev (fun k=>laws_lpBare.l0 k s i) r ∧ (r = true → (35:Int) ∉ (L s).drop i.toNat ∧ (63:Int) ∉ (L s).drop i.toNat):=by
  intro i hi h0
  refine ⟨true,Ev.step (f:=fun _=>some true) (fun k=>by rw [laws_lpBare.l0,if_neg hi]) (Ev.const rfl),fun _=>?_⟩
  rw [List.drop_of_length_le (by rw [L_length];omega)]
  simp
 induction d with
 | zero=>intro i h0 h1 hd;exact hend i (by omega) h0
 | succ d ih =>
  intro i h0 h1 hd
  by_cases hlt:i < (s.size:Int)
  rotate_left
  ·exact hend i hlt h0
  obtain ⟨x,t,hx⟩:=drop_lt (l:=L s) (i:=i.toNat) (by rw [L_length];omega)
  have hb:=bt_get hx
  have hn:=drop_next hx
  have w:wrap64 (i + 1) = i + 1:=w64 (by omega) (by omega)
  by_cases c1:x = 63
  ·exact ⟨false,Ev.step (f:=fun _=>some false) (fun k=>by rw [laws_lpBare.l0,if_pos hlt,if_pos h0,hb,if_pos c1]) (Ev.const rfl),fun e=>absurd e Bool.false_ne_true⟩
  by_cases c2:x = 35
  ·exact ⟨false,Ev.step (f:=fun _=>some false) (fun k=>by rw [laws_lpBare.l0,if_pos hlt,if_pos h0,hb,if_neg c1,if_pos c2]) (Ev.const rfl),fun e=>absurd e Bool.false_ne_true⟩
  obtain ⟨r,hr,hp⟩:=ih (i + 1) (by omega) (by omega) (by omega)
  refine ⟨r,Ev.step (fun k=>by rw [laws_lpBare.l0,if_pos hlt,if_pos h0,hb,if_neg c1,if_neg c2,w]) hr,fun e=>?_⟩
  have:=hp e
  rw [show (i + 1).toNat = i.toNat + 1 by omega,hn] at this
  rw [hx]
  simp only [List.mem_cons,not_or]
  exact ⟨⟨fun e=>c2 e.symm,this.1⟩,⟨fun e=>c1 e.symm,this.2⟩⟩
theorem bare_ev {s:ByteArray} (hs:s.size ≤ 1000000):∃ r,Ev (fun k=>laws_lpBare.f k s) r ∧ (r = true → (35:Int) ∉ L s ∧ (63:Int) ∉ L s):=by
 unfold laws_lpBare.f
 have:=bare_loop s hs s.size 0 (by omega) (by omega) (by omega)
 simpa using this

theorem FnAddrStroke:laws_FnAddrStroke.Pure:=by
 intro l hm hb hw
 apply Ev.rounds
 unfold laws_FnAddrStroke.f
 by_cases c:(l.length:Int) > 1048576
 ·exact Ev.pos c (Ev.const rfl)
 obtain ⟨t,hd,hz⟩:=DrawT.raw_ev hw
 obtain ⟨r,hs,hi,ha,s1,s2,hl,s3⟩:=both_ev (s:=t) (by omega)
 have S:=self_ev (h:=r.1) (l:=r.2.1) (b:=r.2.2.1) (q:=r.2.2.2.1) (by omega)
 refine Ev.neg c (Ev.bind hd (Ev.bind hs (Ev.bind hi (Ev.neg (by simp) (Ev.bind S (Ev.pos rfl ?_))))))
 have far:Ev (fun k=>laws_FnAddrStroke.j0 k t r.2.2.2.2 r.2.2.2.2 true r.1 r.2.1 r.2.2.1 r.2.2.2.1 r.1 r.2.1 r.2.2.1 r.2.2.2.1) true :=
  Ev.step (f:=fun k=>(if (r.2.2.2.2 == r.2.2.2.2) = true then ((laws_lpAddr.f k r.1 r.2.1 r.2.2.1 r.2.2.2.1 r.1 r.2.1 r.2.2.1 r.2.2.2.1).bind fun t461=>(some t461)) else (some false))) (fun k=>by simp only [laws_FnAddrStroke.j0];rw [if_pos (by first|trivial|rfl)]) (Ev.pos (by simp) (Ev.bind S (Ev.const rfl)))
 cases hrd:AddrP.read (L t) with
 | none =>
  rw [hrd] at ha
  have h5:r.2.2.2.2 = false:=by rw [show r = noAd from ha];rfl
  exact Ev.neg (by rw [h5];simp) far
 | some a =>
  rw [hrd] at ha
  obtain ⟨h5,e⟩:=id ha
  refine Ev.pos h5 ?_
  obtain ⟨v,hv,hp⟩:=bare_ev (s:=t) (by omega)
  refine Ev.bind hv ?_
  cases v with
  | false=>exact Ev.neg (by simp) far
  | true =>
   obtain ⟨n35,n63⟩:=hp rfl
   refine Ev.pos rfl ?_
   have w:wrap64 ((t.size:Int) + 4) = t.size + 4:=w64 (by omega) (by omega)
   by_cases h60:wrap64 ((t.size:Int) + 4) > 60
   ·rw [decide_eq_true h60];exact far
   rw [decide_eq_false h60]
   rw [w] at h60
   have hLt:=L_length t
   have again:∀ x:ByteArray,AddrP.read (L x) = some a → Ev (fun k=>impl_AddrRead.f k x) r:=by
    intro x hx
    obtain ⟨r',hr',ha'⟩:=ReadI.read_ev x
    rw [hx] at ha'
    obtain rfl:=ha'.one ha
    exact hr'
   have g1:AddrP.read (L t ++ 47 :: []) = some a:=read_idle n35 n63 (by simp) (by simp) (by
    intro p hp
    rw [show splitT 47 ([]:List Int) = [[]] from rfl] at hp
    simp only [List.mem_singleton] at hp
    subst hp
    exact ⟨norm_nil,rfl⟩) (by simp;omega) hrd
   have g2:AddrP.read (L t ++ 47 :: [46,47]) = some a:=read_idle n35 n63 (by decide) (by decide) (by
    intro p hp
    rw [show splitT 47 ([46,47]:List Int) = [[46],[]] from rfl] at hp
    simp only [List.mem_cons,List.not_mem_nil,or_false] at hp
    rcases hp with rfl|rfl
    ·exact ⟨escN_plain (by simp) (by decide),rfl⟩
    ·exact ⟨norm_nil,rfl⟩) (by simp;omega) hrd
   have a1:=again (t ++ (⟨#[47]⟩:ByteArray)) (by rw [L_append];exact g1)
   have a2:=again (t ++ (⟨#[47,46,47]⟩:ByteArray)) (by rw [L_append];exact g2)
   exact Ev.step (fun k=>by simp only [laws_FnAddrStroke.j0];rw [if_neg (by simp)]) (Ev.pos (show t.size + 1 ≤ 9223372036854775807 by omega) (Ev.bind a1 (Ev.pos (show t.size + 3 ≤ 9223372036854775807 by omega) (Ev.bind a2 (Ev.pos h5 (Ev.bind S (Ev.pos rfl (Ev.pos h5 (Ev.bind S (Ev.const rfl))))))))))

end Go.Proofs.YtbnnamjaljohiaaDoor.Pure
