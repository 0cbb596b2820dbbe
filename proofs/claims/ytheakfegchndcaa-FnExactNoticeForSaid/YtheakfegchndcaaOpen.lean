/- What comes in, opened: the cells of a datum that is read are those of a kind of the print. Condition: the type is laid as the kind says. -/
-- Cut down by a program of this session (wip/tools/prune.py) to what its claim can name.
import Derived.Test.YtheakfegchndcaaWWords
import Derived.ProofKit
import Derived.Lib.SmallJoins
namespace Go.Proofs.Ytheakfegchndcaa.Opn
open Go
open Go.RowKit Go.ChangeShapes Go.WideShapes Go.Proofs.YtheakfegchndcaaW.PrintWords
set_option linter.unusedVariables false
set_option linter.unusedSimpArgs false

/-- A datum of type t reads as a value of the kind d, and the value is in its bounds. -/
def Opens (P:Program) {α:Type} (d:Kd α) (t:TypeId) (ok:α → Prop):Prop :=
 P.cellsOf t = d.sz ∧ ∀ {H:Type} {enc:TypeId × Value → H} {W:World} {base:Nat} {spare:Nat → Bool} {held:Bool} {fuel:Nat} {cs:List Value} {x:DataW H × List MemPlace},
  DataW.trod enc P W base spare held fuel t cs = some x → ∃ a,d.K W a cs ∧ ok a
theorem Opens.of {P:Program} {α:Type} {d:Kd α} {t:TypeId} {ok:α → Prop} (h:Opens P d t ok) {H:Type} {enc:TypeId × Value → H} {W:World} {base:Nat} {spare:Nat → Bool} {held:Bool} {fuel:Nat} {cs:List Value} {x:DataW H × List MemPlace}
  (hx:DataW.trod enc P W base spare held fuel t cs = some x):∃ a,d.K W a cs ∧ ok a:=h.2 hx
theorem Opens.str {P:Program} {t:TypeId} (ht:P.underlying t = some .string) (hc:P.cellsOf t = 1):Opens P Kd.string t (fun s=>s.size ≤ maxLen) :=
 ⟨hc,fun h=>by obtain ⟨s,rfl,_,hs⟩:=DataW.trod_string ht h;exact ⟨s,rfl,hs⟩⟩
theorem Opens.int {P:Program} {t:TypeId} {k:IntKind} (ht:P.underlying t = some (.int k)) (hc:P.cellsOf t = 1):Opens P (Kd.int k) t (fun n=>(Lit.int k n).wf = true) :=
 ⟨hc,fun h=>by obtain ⟨s,rfl,_,hs⟩:=DataW.trod_int ht h;exact ⟨s,rfl,hs⟩⟩
theorem Opens.bool {P:Program} {t:TypeId} (ht:P.underlying t = some .bool) (hc:P.cellsOf t = 1):Opens P Kd.bool t (fun _=>True) :=
 ⟨hc,fun h=>by obtain ⟨s,rfl,_⟩:=DataW.trod_bool ht h;exact ⟨s,rfl,trivial⟩⟩
theorem cells_at {W:World} {base:Nat} {a:Addr} {n:Nat} {cs:List Value} (h:W.cells? base a n = some cs):cs.length = n ∧ ∀ i u,cs[i]? = some u → W.cell? (a.add i) = some u:=by
 unfold World.cells? at h
 split at h
 ·exact ⟨by simpa using mapM_some_length h,fun i u hu=>by
   have hi:i < n:=by
    have:=(List.getElem?_eq_some_iff.mp hu).1
    have h2:=mapM_some_length h
    simp at h2;omega
   have:=mapM_some_get h i i (by simp [hi])
   rw [← hu,← this]⟩
 ·cases h
theorem add_two (a:Addr) (m n:Nat):(a.add m).add n = a.add (m + n):=by
 unfold Addr.add
 by_cases h1:m = 0
 ·subst h1;simp
 ·by_cases h2:n = 0
  ·subst h2;simp
  ·rw [if_neg h1,if_neg h2,if_neg (by omega)];simp only [Nat.add_assoc]
/-- A slice. -/
theorem Opens.slice {P:Program} {α:Type} {d:Kd α} {t e:TypeId} {ok:α → Prop} (ht:P.underlying t = some (.slice e)) (hc:P.cellsOf t = 1) (hd:Opens P d e ok) :
  Opens P (Kd.slice e d) t (fun l=>l.length ≤ maxLen ∧ ∀ x ∈ l,ok x):=by
 refine ⟨hc,fun {H enc W base spare held fuel cs x} h=>?_⟩
 rcases DataW.trod_slice ht h with ⟨rfl,_⟩|⟨a,len,cap,elems,rest,n,_,rfl,rfl,hb,hl,hm,hlen,hel,_,_⟩
 ·exact ⟨[],⟨none,0,rfl,Nat.le_refl _,rfl,Nat.zero_le _,fun h=>absurd h (by simp)⟩,Nat.zero_le _,by simp⟩
 have key:∀ m,m ≤ len → ∃ xs:List α,xs.length = m ∧ (∀ y ∈ xs,ok y) ∧ ∀ j y,xs[j]? = some y → ∃ c,c.length = d.sz ∧ d.K W y c ∧ ∀ i u,c[i]? = some u → W.cell? (a.add (j * d.sz + i)) = some u:=by
  intro m
  induction m with
  | zero=>exact fun _=>⟨[],rfl,by simp,fun j y h=>by simp at h⟩
  | succ m ih =>
   intro hm'
   obtain ⟨xs,hx,ho,hr⟩:=ih (by omega)
   have he:=hel m (by omega)
   rw [List.getElem?_eq_getElem (by omega),Option.bind_eq_some_iff] at he
   obtain ⟨c,hcc,hct⟩:=he
   obtain ⟨y,hy,hoy⟩:=hd.of hct
   obtain ⟨hcl,hcell⟩:=cells_at hcc
   refine ⟨xs ++ [y],by simp [hx],fun z hz=>?_,fun j z hz=>?_⟩
   ·rcases List.mem_append.mp hz with hz|hz
    ·exact ho z hz
    ·rw [List.mem_singleton.mp hz];exact hoy
   ·rcases Nat.lt_or_ge j xs.length with hj|hj
    ·rw [List.getElem?_append_left hj] at hz;exact hr j z hz
    ·rw [List.getElem?_append_right hj] at hz
     have hj0:j - xs.length = 0:=by
      rcases Nat.eq_zero_or_pos (j - xs.length) with h0|h0
      ·exact h0
      ·rw [List.getElem?_eq_none (by simp;omega)] at hz;cases hz
     rw [hj0] at hz
     have hzy:y = z:=by simpa using hz
     subst hzy
     have hjm:j = m:=by omega
     subst hjm
     refine ⟨c,by rw [hcl,hd.1],hy,fun i u hu=>?_⟩
     have:=hcell i u hu
     rw [hd.1] at this
     rw [← this]
     rw [add_two]
 obtain ⟨xs,hx,ho,hr⟩:=key len (Nat.le_refl _)
 refine ⟨xs,⟨some a,cap,by rw [hx],by omega,rfl,?_,fun _=>⟨a,rfl,hr⟩⟩,?_,ho⟩
 ·unfold maxLen at hm;omega
 ·omega
/-- A struct of two, three, four fields. -/
theorem Opens.two {P:Program} {α β γ:Type} {d0:Kd α} {d1:Kd β} {t:TypeId} {f0 f1:Field} {o0:α → Prop} {o1:β → Prop} {g:γ → α × β} {mk:α → β → γ} (hg:∀ a b,g (mk a b) = (a,b))
  (ht:P.underlying t = some (.struct #[f0,f1])) (hc:P.cellsOf t = d0.sz + d1.sz) (hf0:f0.offset = 0) (hf1:f1.offset = d0.sz)
  (h0:Opens P d0 f0.type o0) (h1:Opens P d1 f1.type o1):Opens P (Kd.iso (Kd.pair d0 d1) g) t (fun x=>o0 (g x).1 ∧ o1 (g x).2):=by
 refine ⟨hc,fun {H enc W base spare held fuel cs x} h=>?_⟩
 obtain ⟨ys,n,_,_,hl,hyl,hf⟩:=DataW.trod_struct ht h
 have e0:=hf 0 f0 rfl;have e1:=hf 1 f1 rfl
 rw [hf0,h0.1,List.getElem?_eq_getElem (by rw [hyl];simp)] at e0
 rw [hf1,h1.1,List.getElem?_eq_getElem (by rw [hyl];simp)] at e1
 obtain ⟨a,ha,oa⟩:=h0.of e0
 obtain ⟨b,hb,ob⟩:=h1.of e1
 refine ⟨mk a b,?_,by simp only [hg];exact ⟨oa,ob⟩⟩
 show (Kd.pair d0 d1).K W (g (mk a b)) cs
 rw [hg]
 refine ⟨_,_,?_,ha,hb⟩
 rw [List.drop_zero,List.take_of_length_le (l:=cs.drop d0.sz) (by rw [List.length_drop];omega),List.take_append_drop]
theorem Opens.three {P:Program} {α β δ γ:Type} {d0:Kd α} {d1:Kd β} {d2:Kd δ} {t:TypeId} {f0 f1 f2:Field} {o0:α → Prop} {o1:β → Prop} {o2:δ → Prop} {g:γ → α × β × δ} {mk:α → β → δ → γ} (hg:∀ a b c,g (mk a b c) = (a,b,c))
  (ht:P.underlying t = some (.struct #[f0,f1,f2])) (hc:P.cellsOf t = d0.sz + (d1.sz + d2.sz)) (hf0:f0.offset = 0) (hf1:f1.offset = d0.sz) (hf2:f2.offset = d0.sz + d1.sz)
  (h0:Opens P d0 f0.type o0) (h1:Opens P d1 f1.type o1) (h2:Opens P d2 f2.type o2):Opens P (Kd.iso (Kd.pair d0 (Kd.pair d1 d2)) g) t (fun x=>o0 (g x).1 ∧ o1 (g x).2.1 ∧ o2 (g x).2.2):=by
 refine ⟨hc,fun {H enc W base spare held fuel cs x} h=>?_⟩
 obtain ⟨ys,n,_,_,hl,hyl,hf⟩:=DataW.trod_struct ht h
 have e0:=hf 0 f0 rfl;have e1:=hf 1 f1 rfl;have e2:=hf 2 f2 rfl
 rw [hf0,h0.1,List.getElem?_eq_getElem (by rw [hyl];simp)] at e0
 rw [hf1,h1.1,List.getElem?_eq_getElem (by rw [hyl];simp)] at e1
 rw [hf2,h2.1,List.getElem?_eq_getElem (by rw [hyl];simp)] at e2
 obtain ⟨a,ha,oa⟩:=h0.of e0
 obtain ⟨b,hb,ob⟩:=h1.of e1
 obtain ⟨c,hcc,oc⟩:=h2.of e2
 refine ⟨mk a b c,?_,by simp only [hg];exact ⟨oa,ob,oc⟩⟩
 show (Kd.pair d0 (Kd.pair d1 d2)).K W (g (mk a b c)) cs
 rw [hg]
 refine ⟨_,cs.drop d0.sz,?_,ha,_,_,?_,hb,hcc⟩
 ·rw [List.drop_zero,List.take_append_drop]
 ·rw [← List.drop_drop,List.take_of_length_le (l:=(cs.drop d0.sz).drop d1.sz) (by simp only [List.length_drop];omega),List.take_append_drop]
/-- What a slice reads as, as a contract asks for it. -/
theorem Opens.row {P:Program} {α:Type} {d:Kd α} {t e:TypeId} {ok:α → Prop} (hd:Opens P (Kd.slice e d) t (fun l=>l.length ≤ maxLen ∧ ∀ x ∈ l,ok x)) {H:Type} {enc:TypeId × Value → H} {W:World} {base:Nat} {spare:Nat → Bool} {held:Bool} {fuel:Nat} {v:Value} {x:DataW H × List MemPlace}
  (h:DataW.trod enc P W base spare held fuel t [v] = some x):∃ A c l,v = .slice A (List.length l) c ∧ l.length ≤ c ∧ d.C W A l.length l ∧ l.length ≤ maxLen ∧ ∀ x ∈ l,ok x:=by
 obtain ⟨l,⟨A,c,e,hl,hr⟩,hm,ho⟩:=hd.of h
 exact ⟨A,c,l,by simpa using e,hl,hr,hm,ho⟩
end Go.Proofs.Ytheakfegchndcaa.Opn
