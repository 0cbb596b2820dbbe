/- Drawn addresses, each with a reference: not long. Condition: none. -/
-- Cut down by a program of this session (wip/tools/prune.py) to what its claim can name.
import Derived.Test.YtbnnamjaljohiaaDoorPx4
import Derived.Test.YtbnnamjaljohiaaDoorDrawA
import Derived.Test.YtbnnamjaljohiaaDoorDrawR
namespace Go.Proofs.YtbnnamjaljohiaaDoor.DrawJ
open Go hiding stepT
open Go.RowKit Go.Proofs.YtbnnamjaljohiaaDoor.P Go.Proofs.YtbnnamjaljohiaaDoor.Lib Go.Proofs.YtbnnamjaljohiaaDoor.Draw Go.Proofs.YtbnnamjaljohiaaDoor.DrawA Go.Proofs.YtbnnamjaljohiaaDoor.DrawR Go.Proofs.YtbnnamjaljohiaaDoorW.PrintWords Go.Proofs.YtbnnamjaljohiaaDoorW.PrintLast
set_option linter.unusedVariables false
set_option linter.unusedSimpArgs false

theorem drawn {l:List Int} (hw:∀ x ∈ l,(Lit.int .u8 x).wf = true):∃ h ps b q s,Ev (fun k=>spec_DrawAddrJoin.f k l) (h,ps,b,q,s) ∧ Small h ps q ∧ s.size ≤ 60:=by
 obtain ⟨l',ho,hc⟩:=open_ev hw
 obtain ⟨h,ps,b,q,p',he,hs,h1,h2⟩:=drawn_struct hc (p:=0) (by omega) (by omega)
 obtain ⟨v,p2,hv,hz,_⟩:=ref_ev hc (p:=p') (by omega) (by omega)
 refine ⟨h,ps,b,q,v,?_,hs,hz⟩
 unfold spec_DrawAddrJoin.f
 exact Ev.bind0 ho (Ev.bind he (Ev.bind hv (Ev.const rfl)))
end Go.Proofs.YtbnnamjaljohiaaDoor.DrawJ
