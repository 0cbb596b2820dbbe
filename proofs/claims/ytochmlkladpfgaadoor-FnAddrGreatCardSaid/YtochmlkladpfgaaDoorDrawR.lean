/- Drawn references: short texts. Condition: none. -/
-- Cut down by a program of this session (wip/tools/prune.py) to what its claim can name.
import Derived.Test.YtochmlkladpfgaaDoorPx3
import Derived.Test.YtochmlkladpfgaaDoorAddrS
namespace Go.Proofs.YtochmlkladpfgaaDoor.DrawR
open Go hiding stepT
open Go.RowKit Go.Proofs.YtochmlkladpfgaaDoor.P Go.Proofs.YtochmlkladpfgaaDoor.Lib Go.Proofs.YtochmlkladpfgaaDoor.Draw Go.Proofs.YtochmlkladpfgaaDoor.AddrD Go.Proofs.YtochmlkladpfgaaDoorW.PrintWords Go.Proofs.YtochmlkladpfgaaDoorW.PrintLast
set_option linter.unusedVariables false
set_option linter.unusedSimpArgs false

theorem ref_j {l:List Int} (hl:CodeOk l) (n:Int) (b:Bool) {p:Int} (hp:0 ≤ p) (hp2:p ≤ 900) :
  ∃ v p',Ev (fun k=>spec_l71Ref.j0 k n b l p) (v,p') ∧ v.size ≤ 60 ∧ p ≤ p' ∧ p' ≤ p + 10:=by
 cases b with
 | true =>
  obtain ⟨v,p',hv,h1,h2,h3⟩:=drawn_addr hl hp hp2
  exact ⟨v,p',Ev.step (fun k=>by rw [spec_l71Ref.j0,if_pos rfl]) (Ev.bind hv (Ev.const rfl)),h1,h2,h3⟩
 | false =>
  have go:∃ v,Ev (fun k=>spec_l71Ref.j0 k n false l p) (v,p + 1) ∧ v.size ≤ 60:=by
   by_cases c2:n = 2
   ·obtain ⟨v,hv,he⟩:=of_ev hl hp (by omega) (xs:=[(⟨#[97]⟩:ByteArray),(⟨#[98]⟩:ByteArray),(⟨#[97,47,98]⟩:ByteArray),(⟨#[99,47,46,46,47,98]⟩:ByteArray),(⟨#[]⟩:ByteArray),(⟨#[120,47,46,47,99]⟩:ByteArray)]) (by simp) (by simp)
    have hs:v.size ≤ 40:=(by decide:∀ x ∈ _,ByteArray.size x ≤ 40) v hv
    exact ⟨(⟨#[47]⟩:ByteArray) ++ v,Ev.step (fun k=>by rw [spec_l71Ref.j0,if_neg Bool.false_ne_true,if_pos c2]) (Ev.bind he (Ev.pos (show 1 + v.size ≤ 9223372036854775807 by omega) (Ev.const rfl))),by rw [ByteArray.size_append];show 1 + v.size ≤ 60;omega⟩
   by_cases c3:n = 3
   ·obtain ⟨v,he,hs⟩:=of_pair hl hp (by omega) (B:=60) (xs:=[(⟨#[46,46]⟩:ByteArray),(⟨#[46,46,47,99]⟩:ByteArray),(⟨#[46,46,47,46,46,47,46,46]⟩:ByteArray),(⟨#[46]⟩:ByteArray),(⟨#[46,47,97]⟩:ByteArray)]) (by simp) (by simp) (by decide)
    exact ⟨v,Ev.step (fun k=>by rw [spec_l71Ref.j0,if_neg Bool.false_ne_true,if_neg c2,if_pos c3]) he,hs⟩
   by_cases c4:n = 4
   ·obtain ⟨v,he,hs⟩:=of_pair hl hp (by omega) (B:=60) (xs:=[(⟨#[63,97]⟩:ByteArray),(⟨#[63]⟩:ByteArray),(⟨#[35,116,111,112]⟩:ByteArray),(⟨#[]⟩:ByteArray),(⟨#[97,35,98]⟩:ByteArray),(⟨#[98,63,97]⟩:ByteArray)]) (by simp) (by simp) (by decide)
    exact ⟨v,Ev.step (fun k=>by rw [spec_l71Ref.j0,if_neg Bool.false_ne_true,if_neg c2,if_neg c3,if_pos c4]) he,hs⟩
   by_cases c5:n = 5
   ·obtain ⟨v,he,hs⟩:=of_pair hl hp (by omega) (B:=60) (xs:=[(⟨#[47,47,65,66,47,97]⟩:ByteArray),(⟨#[47,47,99,100]⟩:ByteArray),(⟨#[47,47,99,100,63,120]⟩:ByteArray),(⟨#[47,47,97,98,47,37,54,49]⟩:ByteArray),(⟨#[47,47,116,111,111,108,111,110,103,47,97]⟩:ByteArray),(⟨#[47,47,97,49,47,98]⟩:ByteArray),(⟨#[47,47,47,97]⟩:ByteArray)]) (by simp) (by simp) (by decide)
    exact ⟨v,Ev.step (fun k=>by rw [spec_l71Ref.j0,if_neg Bool.false_ne_true,if_neg c2,if_neg c3,if_neg c4,if_pos c5]) he,hs⟩
   ·obtain ⟨v,he,hs⟩:=of_pair hl hp (by omega) (B:=60) (xs:=[(⟨#[97]⟩:ByteArray),(⟨#[98]⟩:ByteArray),(⟨#[99]⟩:ByteArray),(⟨#[97,47,98]⟩:ByteArray)]) (by simp) (by simp) (by decide)
    exact ⟨v,Ev.step (fun k=>by rw [spec_l71Ref.j0,if_neg Bool.false_ne_true,if_neg c2,if_neg c3,if_neg c4,if_neg c5]) he,hs⟩
  obtain ⟨v,he,hs⟩:=go
  exact ⟨v,p + 1,he,hs,by omega,by omega⟩

theorem ref_ev {l:List Int} (hl:CodeOk l) {p:Int} (hp:0 ≤ p) (hp2:p ≤ 890) :
  ∃ v p',Ev (fun k=>spec_l71Ref.f k l p) (v,p') ∧ v.size ≤ 60 ∧ p ≤ p' ∧ p' ≤ p + 20:=by
 obtain ⟨n,hn,n0,n1⟩:=pick_ev hl hp (n:=8) (by omega) (by omega) (by omega)
 unfold spec_l71Ref.f
 by_cases c:n = 0
 ·obtain ⟨v,p',hv,h1,h2,h3⟩:=ref_j hl n (n == 0) (p:=p + 1) (by omega) (by omega)
  exact ⟨v,p',Ev.bind hn (Ev.pos c hv),h1,by omega,by omega⟩
 ·obtain ⟨v,p',hv,h1,h2,h3⟩:=ref_j hl n (n == 1) (p:=p + 1) (by omega) (by omega)
  exact ⟨v,p',Ev.bind hn (Ev.neg c hv),h1,by omega,by omega⟩
end Go.Proofs.YtochmlkladpfgaaDoor.DrawR
