/- Drawn groups: few, and not long. (The numbers of the types are this seat's.) Condition: none. -/
-- Cut down by a program of this session (wip/tools/prune.py) to what its claim can name.
import Derived.Test.YtheakfegchndcaaPx0
import Derived.Test.YtheakfegchndcaaPx4
import Derived.Test.YtheakfegchndcaaPx5
import Derived.Test.YtheakfegchndcaaGrpB
import Derived.Test.YtheakfegchndcaaDraw
namespace Go.Proofs.Ytheakfegchndcaa.DrawG
open Go Go.RowKit Go.Proofs.Ytheakfegchndcaa.P Go.Proofs.Ytheakfegchndcaa.Lib Go.Proofs.Ytheakfegchndcaa.Draw Go.Proofs.Ytheakfegchndcaa.NoticeF Go.Proofs.YtheakfegchndcaaW.PrintWords Go.Proofs.YtheakfegchndcaaW.PrintLast
set_option linter.unusedVariables false
set_option linter.unusedSimpArgs false

/-- A group that is drawn. -/
def GOk (g:S30):Prop:=g.f0.length ≤ 3 ∧ g.f1.length ≤ 20 ∧ ∀ s ∈ g.f0,s.size ≤ 10
theorem rule_ev {l:List Int} (hl:CodeOk l) {p:Int} (hp:0 ≤ p) (hp2:p ≤ 1000000):∃ v,Ev (fun k=>spec_l71Rule.f k l p) (v,p + 1) ∧ v.size ≤ 10:=by
 unfold spec_l71Rule.f
 exact of_pair hl hp hp2 (by simp) (by simp) (by decide)
theorem rules_loop {l:List Int} (hl:CodeOk l) (d:Nat):∀ (n p:Int) (o:List S57),n ≤ d → -10 ≤ n → 0 ≤ p → p + 2 * d ≤ 1000 → o.length + d ≤ 19 →
  ∃ x p',Ev (fun k=>spec_l71Rules.l0 k o n l p) (x,p') ∧ x.length ≤ 19 ∧ p ≤ p' ∧ p' ≤ p + 2 * d:=by
 have hend:∀ (n p:Int) (o:List S57) (d:Nat),¬ n > 0 → o.length ≤ 19 → ∃ x p',Ev (fun k=>spec_l71Rules.l0 k o n l p) (x,p') ∧ x.length ≤ 19 ∧ p ≤ p' ∧ p' ≤ p + 2 * d:=fun n p o d hn ho =>
  ⟨o,p,Ev.step (f:=fun _=>some (o,p)) (fun k=>by rw [spec_l71Rules.l0,if_neg hn]) (Ev.const rfl),ho,by omega,by omega⟩
 induction d with
 | zero=>intro n p o h1 h2 h3 h4 h5;exact hend n p o 0 (by omega) (by omega)
 | succ d ih =>
  intro n p o h1 h2 h3 h4 h5
  by_cases hn:n > 0
  rotate_left
  ·exact hend n p o (d + 1) hn (by omega)
  obtain ⟨v,hv,v0,v1⟩:=pick_ev hl (p:=p) (n:=2) h3 (by omega) (by omega) (by omega)
  obtain ⟨r,hr,hs⟩:=rule_ev hl (p:=p + 1) (by omega) (by omega)
  have w:wrap64 (n - 1) = n - 1:=w64 (by omega) (by omega)
  obtain ⟨x,p',hx,b1,b2,b3⟩:=ih (n - 1) (p + 1 + 1) (o ++ [(⟨(v == 0),r⟩:S57)]) (by omega) (by omega) (by omega) (by omega) (by simp;omega)
  exact ⟨x,p',Ev.step (fun k=>by rw [spec_l71Rules.l0,if_pos hn,w]) (Ev.bind hv (Ev.bind hr (Ev.pos (show o.length < 5864062014805 by omega) hx))),b1,by omega,by omega⟩
theorem rules_ev {l:List Int} (hl:CodeOk l) {p:Int} (hp:0 ≤ p) (hp2:p ≤ 900):∃ x p',Ev (fun k=>spec_l71Rules.f k l p) (x,p') ∧ x.length ≤ 19 ∧ p ≤ p' ∧ p' ≤ p + 11:=by
 obtain ⟨n,hn,n0,n1⟩:=pick_ev hl hp (n:=5) (by omega) (by omega) (by omega)
 obtain ⟨x,p',hx,b1,b2,b3⟩:=rules_loop hl 5 n (p + 1) [] (by omega) (by omega) (by omega) (by omega) (by simp)
 unfold spec_l71Rules.f
 exact ⟨x,p',Ev.bind hn hx,b1,by omega,by omega⟩

theorem snoc_ok {o:List S30} (ho:∀ g ∈ o,GOk g) {g:S30} (hg:GOk g):∀ y ∈ o ++ [g],GOk y:=by
 intro y hy
 rcases List.mem_append.mp hy with h|h
 ·exact ho y h
 ·rw [List.mem_singleton.mp h];exact hg
theorem groups_end {l:List Int} (hl:CodeOk l) {n p:Int} {o:List S30} (hn:¬ n > 0) (hp:0 ≤ p) (hp2:p ≤ 900) (ho:∀ g ∈ o,GOk g) (hz:o.length ≤ 10) :
  ∃ x p',Ev (fun k=>spec_l71Groups.l0 k o n l p) (x,p') ∧ x.length ≤ 11 ∧ (∀ g ∈ x,GOk g) ∧ p ≤ p' ∧ p' ≤ p + 1:=by
 obtain ⟨v,hv,v0,v1⟩:=pick_ev hl hp (n:=24) (by omega) (by omega) (by omega)
 have step:∀ k,spec_l71Groups.l0 (k + 1) o n l p = (spec_l6Rd_pick.f k l p 24).bind fun bt349=>(if bt349.1 = 0 then (if o.length < 2513169434916 then (some ((o ++ [(⟨(([(⟨#[120]⟩:ByteArray)]:List ByteArray)),([]:List (S57)),0⟩:S30)]),bt349.2)) else (none)) else (if bt349.1 = 1 then (if o.length < 2513169434916 then (some ((o ++ [(⟨([]:List ByteArray),([]:List (S57)),2⟩:S30)]),bt349.2)) else (none)) else (if bt349.1 = 2 then (if o.length < 2513169434916 then (some ((o ++ [(⟨(([(⟨#[88]⟩:ByteArray)]:List ByteArray)),([]:List (S57)),2⟩:S30)]),bt349.2)) else (none)) else (some (o,bt349.2))))):=fun k=>by
  rw [spec_l71Groups.l0,if_neg hn]
 have hlt:o.length < 2513169434916:=by omega
 by_cases c0:v = 0
 ·exact ⟨_,p + 1,Ev.step step (Ev.bind hv (Ev.pos c0 (Ev.pos hlt (Ev.const rfl)))),by simp;omega,snoc_ok ho ⟨by simp,by simp,by decide⟩,by omega,by omega⟩
 by_cases c1:v = 1
 ·exact ⟨_,p + 1,Ev.step step (Ev.bind hv (Ev.neg c0 (Ev.pos c1 (Ev.pos hlt (Ev.const rfl))))),by simp;omega,snoc_ok ho ⟨by simp,by simp,by simp⟩,by omega,by omega⟩
 by_cases c2:v = 2
 ·exact ⟨_,p + 1,Ev.step step (Ev.bind hv (Ev.neg c0 (Ev.neg c1 (Ev.pos c2 (Ev.pos hlt (Ev.const rfl)))))),by simp;omega,snoc_ok ho ⟨by simp,by simp,by decide⟩,by omega,by omega⟩
 ·exact ⟨o,p + 1,Ev.step step (Ev.bind hv (Ev.neg c0 (Ev.neg c1 (Ev.neg c2 (Ev.const rfl))))),by omega,ho,by omega,by omega⟩
theorem groups_loop {l:List Int} (hl:CodeOk l) (d:Nat):∀ (n p:Int) (o:List S30),n ≤ d → -10 ≤ n → 0 ≤ p → p + 20 * d ≤ 800 → o.length + d ≤ 10 → (∀ g ∈ o,GOk g) →
  ∃ x p',Ev (fun k=>spec_l71Groups.l0 k o n l p) (x,p') ∧ x.length ≤ 11 ∧ (∀ g ∈ x,GOk g) ∧ p ≤ p' ∧ p' ≤ p + 20 * d + 1:=by
 induction d with
 | zero =>
  intro n p o h1 h2 h3 h4 h5 h6
  obtain ⟨x,p',hx,b1,b2,b3,b4⟩:=groups_end hl (n:=n) (p:=p) (by omega) h3 (by omega) h6 (by omega)
  exact ⟨x,p',hx,b1,b2,b3,by omega⟩
 | succ d ih =>
  intro n p o h1 h2 h3 h4 h5 h6
  by_cases hn:n > 0
  rotate_left
  ·obtain ⟨x,p',hx,b1,b2,b3,b4⟩:=groups_end hl (n:=n) (p:=p) hn h3 (by omega) h6 (by omega)
   exact ⟨x,p',hx,b1,b2,b3,by omega⟩
  obtain ⟨a,ha,hae⟩:=of_ev hl h3 (by omega) (xs:=[(⟨#[42]⟩:ByteArray),(⟨#[114,111,118,101,114]⟩:ByteArray),(⟨#[115,99,111,117,116]⟩:ByteArray)]) (by simp) (by simp)
  have hsa:a.size ≤ 10:=(by decide:∀ x ∈ _,ByteArray.size x ≤ 10) a ha
  obtain ⟨rs,p1,hr,r1,r2,r3⟩:=rules_ev hl (p:=p + 1) (by omega) (by omega)
  obtain ⟨v,hv,_,_⟩:=pick_ev hl (p:=p1) (n:=4) (by omega) (by omega) (by omega) (by omega)
  obtain ⟨u,hu,_,_⟩:=pick_ev hl (p:=p1 + 1) (n:=3) (by omega) (by omega) (by omega) (by omega)
  obtain ⟨z,hz,_,_⟩:=pick_ev hl (p:=p1 + 1 + 1) (n:=4) (by omega) (by omega) (by omega) (by omega)
  have w:wrap64 (n - 1) = n - 1:=w64 (by omega) (by omega)
  have hlt:o.length < 2513169434916:=by omega
  have rest:∀ (ns:List ByteArray) (q:Int),ns.length ≤ 3 → (∀ s ∈ ns,s.size ≤ 10) → p1 ≤ q → q ≤ p1 + 4 →
    ∃ x p',Ev (fun k=>(if (rs.length:Int) > 0 then (if o.length < 2513169434916 then (spec_l71Groups.l0 k (o ++ [(⟨ns,rs,wrap64 (v * u)⟩:S30)]) (n - 1) l q) else (none)) else (if (wrap64 (v * u)) > 0 then (if o.length < 2513169434916 then (spec_l71Groups.l0 k (o ++ [(⟨ns,rs,wrap64 (v * u)⟩:S30)]) (n - 1) l q) else (none)) else (spec_l71Groups.l0 k o (n - 1) l q)))) (x,p') ∧ x.length ≤ 11 ∧ (∀ g ∈ x,GOk g) ∧ p ≤ p' ∧ p' ≤ p + 20 * ((d + 1:Nat):Int) + 1:=by
   intro ns q hns hss hq1 hq2
   obtain ⟨x,p',hx,b1,b2,b3,b4⟩:=ih (n - 1) q (o ++ [(⟨ns,rs,wrap64 (v * u)⟩:S30)]) (by omega) (by omega) (by omega) (by omega) (by simp;omega) (snoc_ok h6 ⟨hns,by show rs.length ≤ 20;omega,hss⟩)
   obtain ⟨x2,p2,hx2,d1,d2,d3,d4⟩:=ih (n - 1) q o (by omega) (by omega) (by omega) (by omega) (by omega) h6
   by_cases c:(rs.length:Int) > 0
   ·exact ⟨x,p',Ev.pos c (Ev.pos hlt hx),b1,b2,by omega,by omega⟩
   by_cases c':(wrap64 (v * u)) > 0
   ·exact ⟨x,p',Ev.neg c (Ev.pos c' (Ev.pos hlt hx)),b1,b2,by omega,by omega⟩
   ·exact ⟨x2,p2,Ev.neg c (Ev.neg c' hx2),d1,d2,by omega,by omega⟩
  by_cases cz:z = 0
  ·obtain ⟨e,he,hee⟩:=of_ev hl (p:=p1 + 1 + 1 + 1) (by omega) (by omega) (xs:=[(⟨#[42]⟩:ByteArray),(⟨#[114,111,118,101,114]⟩:ByteArray),(⟨#[120]⟩:ByteArray)]) (by simp) (by simp)
   have hse:e.size ≤ 10:=(by decide:∀ x ∈ _,ByteArray.size x ≤ 10) e he
   obtain ⟨x,p',hx,b1,b2,b3,b4⟩:=rest ([a] ++ [e]) (p1 + 1 + 1 + 1 + 1) (by simp) (by
    intro s hs
    simp only [List.cons_append,List.nil_append,List.mem_cons,List.not_mem_nil,or_false] at hs
    rcases hs with rfl|rfl
    ·exact hsa
    ·exact hse) (by omega) (by omega)
   exact ⟨x,p',Ev.step (fun k=>by rw [spec_l71Groups.l0,if_pos hn,w]) (Ev.bind hae (Ev.bind0 (a:=[a]) rfl (Ev.bind hr (Ev.bind hv (Ev.bind hu (Ev.bind hz (Ev.pos cz (Ev.bind hee (Ev.pos (show ([a]:List ByteArray).length < 8796093022208 by simp) (Ev.bind0 (a:=[a] ++ [e]) rfl hx)))))))))),b1,b2,b3,b4⟩
  ·obtain ⟨x,p',hx,b1,b2,b3,b4⟩:=rest [a] (p1 + 1 + 1 + 1) (by simp) (by
    intro s hs
    rw [List.mem_singleton.mp hs];exact hsa) (by omega) (by omega)
   exact ⟨x,p',Ev.step (fun k=>by rw [spec_l71Groups.l0,if_pos hn,w]) (Ev.bind hae (Ev.bind0 (a:=[a]) rfl (Ev.bind hr (Ev.bind hv (Ev.bind hu (Ev.bind hz (Ev.neg cz hx))))))),b1,b2,b3,b4⟩
theorem groups_ev {l:List Int} (hl:CodeOk l) {p:Int} (hp:0 ≤ p) (hp2:p ≤ 600):∃ x p',Ev (fun k=>spec_l71Groups.f k l p) (x,p') ∧ x.length ≤ 11 ∧ (∀ g ∈ x,GOk g) ∧ p ≤ p' ∧ p' ≤ p + 90:=by
 obtain ⟨n,hn,n0,n1⟩:=pick_ev hl hp (n:=4) (by omega) (by omega) (by omega)
 obtain ⟨x,p',hx,b1,b2,b3,b4⟩:=groups_loop hl 4 n (p + 1) [] (by omega) (by omega) (by omega) (by omega) (by simp) (by intro g hg;cases hg)
 unfold spec_l71Groups.f
 exact ⟨x,p',Ev.bind hn hx,b1,b2,by omega,by omega⟩
end Go.Proofs.Ytheakfegchndcaa.DrawG
