/- Drawn addresses, some spoilt; whether two addresses are the same, as the laws ask it. Condition: none. -/
-- Cut down by a program of this session (wip/tools/prune.py) to what its claim can name.
import Derived.Test.YtbnnamjaljohiaaDoorPx4
import Derived.Test.YtbnnamjaljohiaaDoorPx7
import Derived.Test.YtbnnamjaljohiaaDoorAddrS
import Derived.Test.YtbnnamjaljohiaaDoorTextsF
namespace Go.Proofs.YtbnnamjaljohiaaDoor.DrawA
open Go hiding stepT
open Go.RowKit Go.Proofs.YtbnnamjaljohiaaDoor.P Go.Proofs.YtbnnamjaljohiaaDoor.Lib Go.Proofs.YtbnnamjaljohiaaDoor.CutP Go.Proofs.YtbnnamjaljohiaaDoor.Draw Go.Proofs.YtbnnamjaljohiaaDoor.AddrP Go.Proofs.YtbnnamjaljohiaaDoor.AddrF Go.Proofs.YtbnnamjaljohiaaDoor.AddrR Go.Proofs.YtbnnamjaljohiaaDoor.AddrD Go.Proofs.YtbnnamjaljohiaaDoorW.PrintWords Go.Proofs.YtbnnamjaljohiaaDoorW.PrintLast
set_option linter.unusedVariables false
set_option linter.unusedSimpArgs false

def Small (h:ByteArray) (l:List ByteArray) (q:ByteArray):Prop:=h.size ≤ 60 ∧ tot l ≤ 200 ∧ q.size ≤ 60
theorem drawn_struct {l:List Int} (hl:CodeOk l) {p:Int} (hp:0 ≤ p) (hp2:p ≤ 800) :
  ∃ h ps b q p',Ev (fun k=>spec_l71Struct.f k l p) (h,ps,b,q,p') ∧ Small h ps q ∧ p ≤ p' ∧ p' ≤ p + 20:=by
 obtain ⟨v,p1,hv,hvs,hp1,hp1'⟩:=drawn_addr hl hp (by omega)
 obtain ⟨r,hr,ha⟩:=AddrR.read_ev (s:=v) (by omega)
 obtain ⟨s1,s2,s3⟩:=read_short ha
 obtain ⟨n,hn,n0,n1⟩:=pick_ev hl (p:=p1) (n:=12) (by omega) (by omega) (by omega) (by omega)
 have hlen:=len_tot r.2.1
 unfold spec_l71Struct.f Small
 by_cases c0:n = 0
 ·obtain ⟨a,ha,hae⟩:=of_ev hl (p:=p1 + 1) (by omega) (by omega) (xs:=[(⟨#[46,46]⟩:ByteArray),(⟨#[]⟩:ByteArray),(⟨#[37,54,49]⟩:ByteArray),(⟨#[65]⟩:ByteArray),(⟨#[97,47,98]⟩:ByteArray),(⟨#[37,51,70]⟩:ByteArray)]) (by simp) (by simp)
  have hsa:a.size ≤ 10:=(by decide:∀ x ∈ _,ByteArray.size x ≤ 10) a ha
  have ht:tot (r.2.1 ++ [a]) = tot r.2.1 + (a.size + 1):=by rw [tot_append];simp [tot]
  exact ⟨r.1,r.2.1 ++ [a],r.2.2.1,r.2.2.2.1,p1 + 1 + 1,Ev.bind hv (Ev.bind hr (Ev.bind hn (Ev.pos c0 (Ev.bind hae (Ev.pos (by omega) (Ev.const rfl)))))),⟨s1,by omega,s3⟩,by omega,by omega⟩
 by_cases c1:n = 1
 ·obtain ⟨a,ha,hae⟩:=of_ev hl (p:=p1 + 1) (by omega) (by omega) (xs:=[(⟨#[]⟩:ByteArray),(⟨#[65,98]⟩:ByteArray),(⟨#[116,111,111,108,111,110,103]⟩:ByteArray),(⟨#[97,49]⟩:ByteArray)]) (by simp) (by simp)
  have hsa:a.size ≤ 10:=(by decide:∀ x ∈ _,ByteArray.size x ≤ 10) a ha
  exact ⟨a,r.2.1,r.2.2.1,r.2.2.2.1,p1 + 1 + 1,Ev.bind hv (Ev.bind hr (Ev.bind hn (Ev.neg c0 (Ev.pos c1 (Ev.bind hae (Ev.const rfl)))))),⟨by omega,by omega,s3⟩,by omega,by omega⟩
 by_cases c2:n = 2
 ·exact ⟨r.1,r.2.1,r.2.2.1,(⟨#[120]⟩:ByteArray),p1 + 1,Ev.bind hv (Ev.bind hr (Ev.bind hn (Ev.neg c0 (Ev.neg c1 (Ev.pos c2 (Ev.const rfl)))))),⟨s1,by omega,by decide⟩,by omega,by omega⟩
 by_cases c3:n = 3
 ·have ht:tot (r.2.1 ++ [(⟨#[97]⟩:ByteArray),(⟨#[98]⟩:ByteArray),(⟨#[99]⟩:ByteArray),(⟨#[97]⟩:ByteArray),(⟨#[98]⟩:ByteArray)]) = tot r.2.1 + 10:=by rw [tot_append];rfl
  exact ⟨_,_,_,_,_,Ev.bind hv (Ev.bind hr (Ev.bind hn (Ev.neg c0 (Ev.neg c1 (Ev.neg c2 (Ev.pos c3 (Ev.bind0 rfl (Ev.pos (by simp only [List.length_cons,List.length_nil];omega) (Ev.const rfl))))))))),⟨s1,by omega,s3⟩,by omega,by omega⟩
 ·exact ⟨_,_,_,_,_,Ev.bind hv (Ev.bind hr (Ev.bind hn (Ev.neg c0 (Ev.neg c1 (Ev.neg c2 (Ev.neg c3 (Ev.const rfl))))))),⟨s1,by omega,s3⟩,by omega,by omega⟩

theorem adOf_inj {h:ByteArray} {l:List ByteArray} {b:Bool} {q h':ByteArray} {l':List ByteArray} {b':Bool} {q':ByteArray}:adOf h l b q = adOf h' l' b' q' ↔ h = h' ∧ l = l' ∧ b = b' ∧ q = q':=by
 constructor
 ·intro e
  simp only [adOf,Ad.mk.injEq] at e
  exact ⟨L_inj e.1,map_inj_ L (fun _ _=>L_inj) _ _ e.2.1,e.2.2.1,L_inj e.2.2.2⟩
 ·rintro ⟨rfl,rfl,rfl,rfl⟩;rfl
theorem same_ev {h:ByteArray} {l:List ByteArray} {b:Bool} {q h':ByteArray} {l':List ByteArray} {b':Bool} {q':ByteArray} (hl:l.length ≤ 1000000000) :
  Ev (fun k=>laws_lpAddr.f k h l b q h' l' b' q') (decide (h = h' ∧ l = l' ∧ b = b' ∧ q = q')):=by
 unfold laws_lpAddr.f
 by_cases c1:h = h'
 rotate_left
 ·rw [decide_eq_false (fun e=>c1 e.1)]
  exact Ev.neg (fun e=>c1 (toList_inj e)) (Ev.const rfl)
 refine Ev.pos (by rw [c1]) ?_
 by_cases c2:b = b'
 rotate_left
 ·rw [decide_eq_false (fun e=>c2 e.2.2.1)]
  exact Ev.neg (by simpa using c2) (Ev.const rfl)
 refine Ev.pos (by simpa using c2) ?_
 by_cases c3:q = q'
 rotate_left
 ·rw [decide_eq_false (fun e=>c3 e.2.2.2)]
  exact Ev.neg (fun e=>c3 (toList_inj e)) (Ev.const rfl)
 refine Ev.pos (by rw [c3]) (Ev.bind (PathF.texts_ev hl) (Ev.const ?_))
 congr 1
 rw [decide_eq_decide]
 exact ⟨fun e=>⟨c1,e,c2,c3⟩,fun e=>e.2.1⟩
end Go.Proofs.YtbnnamjaljohiaaDoor.DrawA
