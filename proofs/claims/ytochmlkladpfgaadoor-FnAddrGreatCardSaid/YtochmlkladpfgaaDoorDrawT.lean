/- Drawn raw texts of addresses: short. Condition: none. -/
-- Cut down by a program of this session (wip/tools/prune.py) to what its claim can name.
import Derived.Test.YtochmlkladpfgaaDoorPx3
import Derived.Test.YtochmlkladpfgaaDoorDrawR
namespace Go.Proofs.YtochmlkladpfgaaDoor.DrawT
open Go hiding stepT
open Go.RowKit Go.Proofs.YtochmlkladpfgaaDoor.P Go.Proofs.YtochmlkladpfgaaDoor.Lib Go.Proofs.YtochmlkladpfgaaDoor.Draw Go.Proofs.YtochmlkladpfgaaDoor.DrawR Go.Proofs.YtochmlkladpfgaaDoorW.PrintWords Go.Proofs.YtochmlkladpfgaaDoorW.PrintLast
set_option linter.unusedVariables false
set_option linter.unusedSimpArgs false

theorem part_ev {l:List Int} (hl:CodeOk l) {p:Int} (hp:0 ≤ p) (hp2:p ≤ 1000000):∃ v,Ev (fun k=>spec_l71Part.f k l p) (v,p + 1) ∧ v.size ≤ 10:=by
 unfold spec_l71Part.f
 exact of_pair hl hp hp2 (by simp) (by simp) (by decide)
theorem raw_loop {l:List Int} (hl:CodeOk l) (d:Nat):∀ (x:ByteArray) (n p:Int),n ≤ d → -10 ≤ n → 0 ≤ p → p + d ≤ 1000 → x.size + 11 * d ≤ 100 →
  ∃ v,Ev (fun k=>spec_DrawAddrRead.l0 k x n l p) v ∧ v.size ≤ 200:=by
 have hend:∀ (x:ByteArray) (n p:Int),¬ n > 0 → 0 ≤ p → p ≤ 1000 → x.size ≤ 100 → ∃ v,Ev (fun k=>spec_DrawAddrRead.l0 k x n l p) v ∧ v.size ≤ 200:=by
  intro x n p hn hp hp2 hx
  obtain ⟨v,hv,he⟩:=of_ev hl hp (by omega) (xs:=[(⟨#[]⟩:ByteArray),(⟨#[]⟩:ByteArray),(⟨#[47]⟩:ByteArray),(⟨#[63,97]⟩:ByteArray),(⟨#[63,37,54,49,61,98]⟩:ByteArray),(⟨#[35,120]⟩:ByteArray),(⟨#[63,97,63,98]⟩:ByteArray),(⟨#[63,97,35,98]⟩:ByteArray)]) (by simp) (by simp)
  have hs:v.size ≤ 40:=(by decide:∀ x ∈ _,ByteArray.size x ≤ 40) v hv
  exact ⟨x ++ v,Ev.step (fun k=>by rw [spec_DrawAddrRead.l0,if_neg hn]) (Ev.bind he (Ev.pos (show x.size + v.size ≤ 9223372036854775807 by omega) (Ev.const rfl))),by rw [ByteArray.size_append];omega⟩
 induction d with
 | zero=>intro x n p h1 h2 h3 h4 h5;exact hend x n p (by omega) h3 (by omega) (by omega)
 | succ d ih =>
  intro x n p h1 h2 h3 h4 h5
  by_cases hn:n > 0
  rotate_left
  ·exact hend x n p hn h3 (by omega) (by omega)
  obtain ⟨a,ha,hs⟩:=part_ev hl h3 (by omega)
  have w:wrap64 (n - 1) = n - 1:=w64 (by omega) (by omega)
  have z1:(x ++ (⟨#[47]⟩:ByteArray)).size = x.size + 1:=by rw [ByteArray.size_append];rfl
  have z2:((x ++ (⟨#[47]⟩:ByteArray)) ++ a).size = x.size + 1 + a.size:=by rw [ByteArray.size_append,z1]
  obtain ⟨v,hv,hz⟩:=ih ((x ++ (⟨#[47]⟩:ByteArray)) ++ a) (n - 1) (p + 1) (by omega) (by omega) (by omega) (by omega) (by omega)
  exact ⟨v,Ev.step (fun k=>by rw [spec_DrawAddrRead.l0,if_pos hn,w]) (Ev.pos (by omega) (Ev.bind ha (Ev.pos (show (x ++ (⟨#[47]⟩:ByteArray)).size + a.size ≤ 9223372036854775807 by omega) hv))),hz⟩
theorem raw_ev {l:List Int} (hw:∀ x ∈ l,(Lit.int .u8 x).wf = true):∃ v,Ev (fun k=>spec_DrawAddrRead.f k l) v ∧ v.size ≤ 200:=by
 obtain ⟨l',ho,hc⟩:=open_ev hw
 obtain ⟨n,hn,n0,n1⟩:=pick_ev hc (p:=0) (n:=3) (by omega) (by omega) (by omega) (by omega)
 unfold spec_DrawAddrRead.f
 by_cases c:n = 0
 ·obtain ⟨v,p',hv,hs,_⟩:=ref_ev hc (p:=0 + 1) (by omega) (by omega)
  exact ⟨v,Ev.bind0 ho (Ev.bind hn (Ev.pos c (Ev.bind hv (Ev.const rfl)))),by omega⟩
 ·obtain ⟨a,ha,hae⟩:=of_ev hc (p:=0 + 1) (by omega) (by omega) (xs:=[(⟨#[97,98]⟩:ByteArray),(⟨#[67,68]⟩:ByteArray),(⟨#[101]⟩:ByteArray),(⟨#[102,111,120]⟩:ByteArray),(⟨#[97,49]⟩:ByteArray),(⟨#[]⟩:ByteArray)]) (by simp) (by simp)
  have hs:a.size ≤ 10:=(by decide:∀ x ∈ _,ByteArray.size x ≤ 10) a ha
  obtain ⟨m,hm,m0,m1⟩:=pick_ev hc (p:=0 + 1 + 1) (n:=5) (by omega) (by omega) (by omega) (by omega)
  have z:((⟨#[47,47]⟩:ByteArray) ++ a).size = 2 + a.size:=by rw [ByteArray.size_append];rfl
  obtain ⟨v,hv,hz⟩:=raw_loop hc 5 ((⟨#[47,47]⟩:ByteArray) ++ a) m (0 + 1 + 1 + 1) (by omega) (by omega) (by omega) (by omega) (by omega)
  exact ⟨v,Ev.bind0 ho (Ev.bind hn (Ev.neg c (Ev.bind hae (Ev.pos (show 2 + a.size ≤ 9223372036854775807 by omega) (Ev.bind hm hv))))),hz⟩
end Go.Proofs.YtochmlkladpfgaaDoor.DrawT
