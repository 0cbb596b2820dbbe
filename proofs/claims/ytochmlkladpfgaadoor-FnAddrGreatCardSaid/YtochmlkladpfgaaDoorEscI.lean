/- What EscNorm of the program answers: the bytes as they are written in just one way. Condition: none. -/
-- Cut down by a program of this session (wip/tools/prune.py) to what its claim can name.
import Derived.Test.YtochmlkladpfgaaDoorPx2
import Derived.Test.YtochmlkladpfgaaDoorPx5
import Derived.Test.YtochmlkladpfgaaDoorEscF
namespace Go.Proofs.YtochmlkladpfgaaDoor.EscI
open Go Go.RowKit Go.Proofs.YtochmlkladpfgaaDoor.P Go.Proofs.YtochmlkladpfgaaDoor.Lib Go.Proofs.YtochmlkladpfgaaDoor.EscP Go.Proofs.YtochmlkladpfgaaDoor.RuleOkF Go.Proofs.YtochmlkladpfgaaDoor.EscF Go.Proofs.YtochmlkladpfgaaDoorW.PrintWords Go.Proofs.YtochmlkladpfgaaDoorW.PrintLast
set_option linter.unusedVariables false
set_option linter.unusedSimpArgs false

theorem figure {b:Int} (h0:0 ≤ b) (h1:b ≤ 255):impl_figureValue.f b = some ((hexv b).getD 0,(hexv b).isSome):=by
 unfold impl_figureValue.f hexv
 rw [if_pos ⟨h0,h1⟩]
 repeat' split
 all_goals rfl

theorem hexlit (d:Int) (h0:0 ≤ d) (h1:d < 16):bt (⟨#[48,49,50,51,52,53,54,55,56,57,65,66,67,68,69,70]⟩:ByteArray) d = fig d:=by
 have:d = 0 ∨ d = 1 ∨ d = 2 ∨ d = 3 ∨ d = 4 ∨ d = 5 ∨ d = 6 ∨ d = 7 ∨ d = 8 ∨ d = 9 ∨ d = 10 ∨ d = 11 ∨ d = 12 ∨ d = 13 ∨ d = 14 ∨ d = 15:=by omega
 rcases this with rfl|rfl|rfl|rfl|rfl|rfl|rfl|rfl|rfl|rfl|rfl|rfl|rfl|rfl|rfl|rfl <;> rfl

/-- The byte of a sign. -/
theorem sign_short {s:ByteArray} {i:Int} (h0:0 ≤ i) (hs:s.size ≤ 1000) (hi:i ≤ s.size) (h:(s.size:Int) - i < 3):impl_signByte.f s i = some (0,false):=by
 unfold impl_signByte.f
 rw [w64 (by omega) (by omega),if_pos h]
theorem sign_long {s:ByteArray} {i:Int} (h0:0 ≤ i) (hs:s.size ≤ 1000) (h:i + 2 < (s.size:Int)) :
  impl_signByte.f s i = some (match hexv (bt s (i + 1)),hexv (bt s (i + 2)) with
   | some a,some c=>(a * 16 + c,true)
   | _,_=>(0,false)):=by
 have b1:=bt_bd s (i + 1)
 have b2:=bt_bd s (i + 2)
 unfold impl_signByte.f
 rw [w64 (x:=(s.size:Int) - i) (by omega) (by omega),w64 (x:=i + 1) (by omega) (by omega),w64 (x:=i + 2) (by omega) (by omega),if_neg (by omega),if_pos (by omega),if_pos (by omega),figure b1.1 b1.2]
 simp only [Option.bind_some]
 rw [if_pos (by omega),if_pos (by omega),figure b2.1 b2.2]
 simp only [Option.bind_some]
 cases hx:hexv (bt s (i + 1)) with
 | none=>simp
 | some a =>
  have ha:=hexv_bd hx
  cases hy:hexv (bt s (i + 2)) with
  | none=>simp
  | some c =>
   have hc:=hexv_bd hy
   simp only [Option.getD_some,Option.isSome_some,if_true]
   rw [w64 (x:=a * 16) (by omega) (by omega),w64 (x:=a * 16 + c) (by omega) (by omega)]
   have:(a * 16 + c) % 256 = a * 16 + c:=by omega
   rw [this]

/-- What is answered, of what is written ahead and what is left. -/
def AnswersL (o:List Int) (p:List Int) (r:ByteArray × Bool):Prop :=
 match esc p with
 | some t=>r.2 = true ∧ L r.1 = o ++ t
 | none=>r = ((⟨#[]⟩:ByteArray),false)
theorem AnswersL.more {o o':List Int} {p q:List Int} {n:Int} {r:ByteArray × Bool} (h:AnswersL o' q r) (hh:head1 p = some (n,q)) (ho:o' = o ++ enc n):AnswersL o p r:=by
 unfold AnswersL at h ⊢
 rw [esc_some hh]
 cases he:esc q with
 | none=>rw [he] at h;exact h
 | some t =>
  rw [he] at h
  exact ⟨h.1,by rw [h.2,ho,List.append_assoc]⟩

theorem impl_loop (s:ByteArray) (hs:s.size ≤ 60) (d:Nat):∀ (i:Int) (o:List Int),0 ≤ i → i ≤ s.size → (s.size:Int) - i ≤ d → (o.length:Int) + 3 * (s.size - i) ≤ 1000 → (∀ x ∈ o,0 ≤ x ∧ x ≤ 255) →
  ∃ r,Ev (fun k=>impl_EscNorm.l0 k s o i) r ∧ AnswersL o ((L s).drop i.toNat) r:=by
 have hL:=L_length s
 have hend:∀ (i:Int) (o:List Int),i = s.size → (∀ x ∈ o,0 ≤ x ∧ x ≤ 255) → ∃ r,Ev (fun k=>impl_EscNorm.l0 k s o i) r ∧ AnswersL o ((L s).drop i.toNat) r:=by
  intro i o hi hb
  refine ⟨(strOfNums o,true),Ev.step (f:=fun _=>some (strOfNums o,true)) (fun k=>?_) (Ev.const rfl),?_⟩
  ·simp only [impl_EscNorm.l0];rw [if_neg (by omega)]
  ·rw [List.drop_of_length_le (by omega)]
   unfold AnswersL;rw [esc_nil]
   exact ⟨rfl,by rw [L_strOfNums hb];simp⟩
 induction d with
 | zero=>intro i o h0 h1 hd ho hb;exact hend i o (by omega) hb
 | succ d ih =>
  intro i o h0 h1 hd ho hob
  by_cases hlt:i < (s.size:Int)
  rotate_left
  ·exact hend i o (by omega) hob
  obtain ⟨b,q,hbr⟩:=drop_lt (l:=L s) (i:=i.toNat) (by omega)
  have hb:bt s i = b:=bt_get hbr
  have hbb:=bt_bd s i
  rw [hb] at hbb
  have hn:(L s).drop (i.toNat + 1) = q:=drop_next hbr
  have hql:(q.length:Int) = s.size - i - 1:=by
   have:=congrArg List.length hn
   simp at this;omega
  rw [hbr]
  /- what is written for a byte that is meant -/
  have write:∀ (j n:Int) (q':List Int) (g:Nat → Option (ByteArray × Bool)),i ≤ j → j < s.size → 0 ≤ n → n ≤ 255 → (L s).drop (j + 1).toNat = q' → head1 (b :: q) = some (n,q') →
    (∀ k,g k = (if plainB n = true then (if o.length < 140737488355328 then impl_EscNorm.l0 k s (o ++ [n]) (j + 1) else none) else (if 0 ≤ n / 16 then (if n / 16 < 16 then (if 0 ≤ Go.bits .and .u8 n 15 then (if Go.bits .and .u8 n 15 < 16 then ((some (([37,bt (⟨#[48,49,50,51,52,53,54,55,56,57,65,66,67,68,69,70]⟩:ByteArray) (n / 16),bt (⟨#[48,49,50,51,52,53,54,55,56,57,65,66,67,68,69,70]⟩:ByteArray) (Go.bits .and .u8 n 15)]:List Int):List Int)).bind fun y120=>(if o.length + y120.length < 140737488355328 then (impl_EscNorm.l0 k s (o ++ y120) (j + 1)) else (none))) else none) else none) else none) else none))) →
    ∃ r,Ev g r ∧ AnswersL o (b :: q) r:=by
   intro j n q' g hj hj2 hn0 hn1 hq hh hg
   have hand:Go.bits .and .u8 n 15 = n % 16:=Go.u8_and15 n hn0 (by omega)
   cases hp:plainB n with
   | true =>
    obtain ⟨r,hr,ha⟩:=ih (j + 1) (o ++ [n]) (by omega) (by omega) (by omega) (by simp;omega) (by
     intro x hx;rcases List.mem_append.mp hx with hx|hx
     ·exact hob x hx
     ·simp at hx;omega)
    rw [hq] at ha
    refine ⟨r,Ev.congr (f:=fun k=>impl_EscNorm.l0 k s (o ++ [n]) (j + 1)) (fun k=>?_) hr,ha.more hh ?_⟩
    ·rw [hg,hp,if_pos rfl,if_pos (by omega)]
    ·unfold enc;rw [hp];rfl
   | false =>
    have f1:=fig_bd (d:=n / 16) (by omega) (by omega)
    have f2:=fig_bd (d:=n % 16) (by omega) (by omega)
    obtain ⟨r,hr,ha⟩:=ih (j + 1) (o ++ [37,fig (n / 16),fig (n % 16)]) (by omega) (by omega) (by omega) (by simp;omega) (by
     intro x hx;rcases List.mem_append.mp hx with hx|hx
     ·exact hob x hx
     ·simp only [List.mem_cons,List.not_mem_nil,or_false] at hx;omega)
    rw [hq] at ha
    refine ⟨r,Ev.congr (f:=fun k=>impl_EscNorm.l0 k s (o ++ [37,fig (n / 16),fig (n % 16)]) (j + 1)) (fun k=>?_) hr,ha.more hh ?_⟩
    ·rw [hg,hp,if_neg (by simp),hand,if_pos (by omega),if_pos (by omega),if_pos (by omega),if_pos (by omega),hexlit _ (by omega) (by omega),hexlit _ (by omega) (by omega)]
     simp only [Option.bind_some]
     rw [if_pos (by simp;omega)]
    ·unfold enc;rw [hp];rfl
  by_cases h37:b = 37
  rotate_left
  ·obtain ⟨r,hr,ha⟩:=write i b q (fun k=>impl_EscNorm.l0 (k + 1) s o i) (by omega) hlt (by omega) (by omega) (by rw [show (i + 1).toNat = i.toNat + 1 by omega];exact hn) (by simp [head1,h37]) (fun k=>by
    simp only [impl_EscNorm.l0]
    rw [if_pos hlt,if_pos h0,hb,if_neg h37,impl_plain,w64 (x:=i + 1) (by omega) (by omega)]
    simp only [Option.bind_some])
   exact ⟨r,Ev.step (fun k=>rfl) hr,ha⟩
  have fails:head1 (b :: q) = none → impl_signByte.f s i = some (0,false) → ∃ r,Ev (fun k=>impl_EscNorm.l0 k s o i) r ∧ AnswersL o (b :: q) r:=by
   intro hh hf
   refine ⟨_,Ev.step (f:=fun _=>some ((⟨#[]⟩:ByteArray),false)) (fun k=>?_) (Ev.const rfl),?_⟩
   ·simp only [impl_EscNorm.l0]
    rw [if_pos hlt,if_pos h0,hb,if_pos h37,hf]
    simp
   ·unfold AnswersL;rw [esc_none hh (by simp)]
  by_cases h2:i + 2 < (s.size:Int)
  rotate_left
  ·refine fails ?_ (sign_short h0 (by omega) (by omega) (by omega))
   rcases q with _|⟨x,_|⟨y,q⟩⟩
   ·simp [head1,h37]
   ·simp [head1,h37]
   ·simp at hql;omega
  obtain ⟨x,q1,hq1⟩:=drop_lt (l:=L s) (i:=(i + 1).toNat) (by omega)
  obtain ⟨y,q2,hq2⟩:=drop_lt (l:=L s) (i:=(i + 2).toNat) (by omega)
  have hx:bt s (i + 1) = x:=bt_get hq1
  have hy:bt s (i + 2) = y:=bt_get hq2
  have hq:q = x :: y :: q2:=by
   have e:=drop_next hq1
   rw [show (i + 1).toNat + 1 = (i + 2).toNat by omega,hq2] at e
   rw [← hn,show i.toNat + 1 = (i + 1).toNat by omega,hq1,← e]
  have hq3:(L s).drop (i + 2 + 1).toNat = q2:=by
   rw [show (i + 2 + 1).toNat = (i + 2).toNat + 1 by omega];exact drop_next hq2
  have hsg:=sign_long h0 (by omega) h2
  rw [hx,hy] at hsg
  cases hvx:hexv x with
  | none =>
   rw [hvx] at hsg
   exact fails (by rw [hq];simp [head1,h37,hvx]) hsg
  | some a =>
   have ha:=hexv_bd hvx
   cases hvy:hexv y with
   | none =>
    rw [hvx,hvy] at hsg
    exact fails (by rw [hq];simp [head1,h37,hvx,hvy]) hsg
   | some c =>
    have hc:=hexv_bd hvy
    rw [hvx,hvy] at hsg
    simp only at hsg
    obtain ⟨r,hr,hA⟩:=write (i + 2) (a * 16 + c) q2 (fun k=>impl_EscNorm.l0 (k + 1) s o i) (by omega) (by omega) (by omega) (by omega) hq3 (by rw [hq];simp [head1,h37,hvx,hvy]) (fun k=>by
     simp only [impl_EscNorm.l0]
     rw [if_pos hlt,if_pos h0,hb,if_pos h37,hsg,w64 (x:=i + 2) (by omega) (by omega),w64 (x:=i + 2 + 1) (by omega) (by omega)]
     simp only [Option.bind_some,if_true]
     rw [impl_plain]
     simp only [Option.bind_some])
    exact ⟨r,Ev.step (fun k=>rfl) hr,hA⟩

theorem of_answersL {s:ByteArray} {r:ByteArray × Bool} (hs:s.size ≤ 60) (h:AnswersL [] (L s) r):IsNorm s r:=by
 unfold IsNorm escN
 rw [if_pos (by rw [L_length];exact hs)]
 unfold AnswersL at h
 cases he:esc (L s) with
 | none=>rw [he] at h;exact h
 | some t=>rw [he] at h;exact ⟨h.1,by rw [h.2];rfl⟩

theorem impl_ev (s:ByteArray):∃ r,Ev (fun k=>impl_EscNorm.f k s) r ∧ IsNorm s r:=by
 unfold impl_EscNorm.f
 by_cases h:(s.size:Int) > 60
 ·exact ⟨_,Ev.pos h (Ev.const rfl),too_long h⟩
 ·obtain ⟨r,hr,ha⟩:=impl_loop s (by omega) s.size 0 [] (by omega) (by omega) (by omega) (by simp;omega) (by simp)
  exact ⟨r,Ev.neg h hr,of_answersL (by omega) (by simpa using ha)⟩

end Go.Proofs.YtochmlkladpfgaaDoor.EscI
