/- What EscNorm of the reference answers: the bytes as they are written in just one way. Condition: none. -/
-- Cut down by a program of this session (wip/tools/prune.py) to what its claim can name.
import Derived.Test.YtochmlkladpfgaaDoorPx2
import Derived.Test.YtochmlkladpfgaaDoorByteP
import Derived.Test.YtochmlkladpfgaaDoorPlainF
namespace Go.Proofs.YtochmlkladpfgaaDoor.EscF
open Go Go.RowKit Go.Proofs.YtochmlkladpfgaaDoor.P Go.Proofs.YtochmlkladpfgaaDoor.Lib Go.Proofs.YtochmlkladpfgaaDoor.EscP Go.Proofs.YtochmlkladpfgaaDoor.RuleOkF Go.Proofs.YtochmlkladpfgaaDoorW.PrintWords Go.Proofs.YtochmlkladpfgaaDoorW.PrintLast
set_option linter.unusedVariables false
set_option linter.unusedSimpArgs false

theorem bt_bd (s:ByteArray) (i:Int):0 ≤ bt s i ∧ bt s i ≤ 255:=bt_range s i

theorem spec_hex {b:Int} (h0:0 ≤ b) (h1:b ≤ 255):Ev (fun k=>spec_l1Hex.f k b) ((hexv b).getD (-1)):=by
 refine Ev.step (f:=fun k=>spec_l1Hex.f (k + 1) b) (fun _=>rfl) (Ev.step (f:=fun k=>spec_l1Hex.f (k + 2) b) (fun _=>rfl) ⟨0,fun k _=>?_⟩)
 show spec_l1Hex.f (k + 2) b = _
 unfold spec_l1Hex.f hexv
 simp only [spec_l1Hex.j0,spec_l1Hex.j1,ge_iff_le]
 by_cases c1:48 ≤ b ∧ b ≤ 57
 ·rw [if_pos c1.1,decide_eq_true c1.2,if_pos rfl,if_pos c1]
  simp only [Option.getD_some,Option.some.injEq];omega
 by_cases c3:97 ≤ b ∧ b ≤ 102
 ·rw [if_neg c1,if_neg (show ¬ (65 ≤ b ∧ b ≤ 70) by omega),if_pos c3,if_pos (by omega),decide_eq_false (show ¬ b ≤ 57 by omega),if_neg (by simp),if_pos c3.1,decide_eq_true c3.2,if_pos rfl]
  simp only [Option.getD_some,Option.some.injEq];omega
 by_cases c2:65 ≤ b ∧ b ≤ 70
 ·rw [if_neg c1,if_pos c2,if_pos (by omega),decide_eq_false (show ¬ b ≤ 57 by omega),if_neg (by simp),if_neg (by omega),if_neg (by simp),if_pos c2.1,if_pos c2.2]
  simp only [Option.getD_some,Option.some.injEq];omega
 ·rw [if_neg c1,if_neg c2,if_neg c3]
  simp only [Option.getD_none]
  repeat' split
  all_goals first|rfl|(exfalso;simp_all;done)|(exfalso;simp_all;omega)

theorem hexstr (d:Nat) (h:d < 16):L ((⟨#[48,49,50,51,52,53,54,55,56,57,65,66,67,68,69,70]⟩:ByteArray).extract d (d + 1)) = [fig d]:=by
 have:d = 0 ∨ d = 1 ∨ d = 2 ∨ d = 3 ∨ d = 4 ∨ d = 5 ∨ d = 6 ∨ d = 7 ∨ d = 8 ∨ d = 9 ∨ d = 10 ∨ d = 11 ∨ d = 12 ∨ d = 13 ∨ d = 14 ∨ d = 15:=by omega
 rw [L_extract]
 rcases this with rfl|rfl|rfl|rfl|rfl|rfl|rfl|rfl|rfl|rfl|rfl|rfl|rfl|rfl|rfl|rfl <;> rfl

theorem spec_sign {n:Int} (h0:0 ≤ n) (h1:n ≤ 255):∃ s,spec_l1Sign.f n = some s ∧ L s = [37,fig (n / 16),fig (n % 16)] ∧ s.size = 3:=by
 have t1:Int.tdiv n 16 = n / 16:=Int.tdiv_eq_ediv_of_nonneg h0
 have t2:Int.tmod n 16 = n % 16:=Int.tmod_eq_emod_of_nonneg h0
 unfold spec_l1Sign.f
 rw [t1,t2]
 have w1:wrap64 (n / 16) = n / 16:=w64 (by omega) (by omega)
 have w2:wrap64 (n / 16 + 1) = n / 16 + 1:=w64 (by omega) (by omega)
 have w3:wrap64 (n % 16 + 1) = n % 16 + 1:=w64 (by omega) (by omega)
 rw [w1,w2,w3]
 have ha:=hexstr (n / 16).toNat (by omega)
 have hb:=hexstr (n % 16).toNat (by omega)
 rw [show (n / 16).toNat + 1 = (n / 16 + 1).toNat by omega,show ((n / 16).toNat:Int) = n / 16 by omega] at ha
 rw [show (n % 16).toNat + 1 = (n % 16 + 1).toNat by omega,show ((n % 16).toNat:Int) = n % 16 by omega] at hb
 generalize (⟨#[48,49,50,51,52,53,54,55,56,57,65,66,67,68,69,70]⟩:ByteArray).extract (n / 16).toNat (n / 16 + 1).toNat = x at *
 generalize (⟨#[48,49,50,51,52,53,54,55,56,57,65,66,67,68,69,70]⟩:ByteArray).extract (n % 16).toNat (n % 16 + 1).toNat = y at *
 have hx:x.size = 1:=by rw [← L_length,ha];rfl
 have hy:y.size = 1:=by rw [← L_length,hb];rfl
 have hp:((⟨#[37]⟩:ByteArray) ++ x).size = 2:=by rw [ByteArray.size_append,hx];rfl
 rw [if_pos (by omega),if_pos (by omega),if_pos (by omega),if_pos (by omega),if_pos (by omega),if_pos (by omega),if_pos (by omega),if_pos (by omega)]
 refine ⟨_,rfl,?_,?_⟩
 ·rw [L_append,L_append,ha,hb];rfl
 ·rw [ByteArray.size_append,hp,hy]

/-- What EscNorm answers, of what is written ahead and what is left. -/
def Answers (o:ByteArray) (p:List Int) (r:ByteArray × Bool):Prop :=
 match esc p with
 | some t=>r.2 = true ∧ L r.1 = L o ++ t
 | none=>r = ((⟨#[]⟩:ByteArray),false)

theorem Answers.more {o o':ByteArray} {p q:List Int} {n:Int} {r:ByteArray × Bool} (h:Answers o' q r) (hh:head1 p = some (n,q)) (ho:L o' = L o ++ enc n):Answers o p r:=by
 unfold Answers at h ⊢
 rw [esc_some hh]
 cases he:esc q with
 | none=>rw [he] at h;exact h
 | some t =>
  rw [he] at h
  obtain ⟨h1,h2⟩:=h
  exact ⟨h1,by rw [h2,ho,List.append_assoc]⟩

theorem spec_loop (s:ByteArray) (hs:s.size ≤ 60) (d:Nat):∀ (i:Int) (o:ByteArray),0 ≤ i → i ≤ s.size → (s.size:Int) - i ≤ d → (o.size:Int) + 3 * (s.size - i) ≤ 1000 →
  ∃ r,Ev (fun k=>spec_EscNorm.l0 k s o i) r ∧ Answers o ((L s).drop i.toNat) r:=by
 have hL:=L_length s
 have hend:∀ (i:Int) (o:ByteArray),i = s.size → ∃ r,Ev (fun k=>spec_EscNorm.l0 k s o i) r ∧ Answers o ((L s).drop i.toNat) r:=by
  intro i o hi
  refine ⟨(o,true),Ev.step (f:=fun _=>some (o,true)) (fun k=>?_) (Ev.const rfl),?_⟩
  ·simp only [spec_EscNorm.l0];rw [if_neg (by omega)]
  ·rw [List.drop_of_length_le (by omega)]
   unfold Answers;rw [esc_nil];simp
 induction d with
 | zero=>intro i o h0 h1 hd ho;exact hend i o (by omega)
 | succ d ih =>
  intro i o h0 h1 hd ho
  by_cases hlt:i < (s.size:Int)
  rotate_left
  ·exact hend i o (by omega)
  obtain ⟨b,q,hbr⟩:=drop_lt (l:=L s) (i:=i.toNat) (by omega)
  have hb:bt s i = b:=bt_get hbr
  have hbb:=bt_bd s i
  rw [hb] at hbb
  have hn:(L s).drop (i.toNat + 1) = q:=drop_next hbr
  have hql:(q.length:Int) = s.size - i - 1:=by
   have:=congrArg List.length hn
   simp at this;omega
  have w1:wrap64 (i + 1) = i + 1:=w64 (by omega) (by omega)
  have w2:wrap64 (i + 2) = i + 2:=w64 (by omega) (by omega)
  rw [hbr]
  /- behind a byte that is told: j is where it ends -/
  have meet:∀ (j n:Int) (q':List Int),i ≤ j → j < s.size → 0 ≤ n → n ≤ 255 → (L s).drop (j + 1).toNat = q' → head1 (b :: q) = some (n,q') →
    ∃ r,Ev (fun k=>spec_EscNorm.j2 k s o j n) r ∧ Answers o (b :: q) r:=by
   intro j n q' hj hj2 hn0 hn1 hq hh
   have w3:wrap64 (j + 1) = j + 1:=w64 (by omega) (by omega)
   have hm:n % 256 = n:=by omega
   cases hp:plainB n with
   | true =>
    have hx:L (strOfNums [n]) = [n]:=L_strOfNums (by simp;omega)
    have hsz:(strOfNums [n]).size = 1:=by rw [← L_length,hx];rfl
    obtain ⟨r,hr,ha⟩:=ih (j + 1) (o ++ strOfNums [n]) (by omega) (by omega) (by omega) (by rw [ByteArray.size_append,hsz];omega)
    rw [hq] at ha
    refine ⟨r,Ev.step (f:=fun k=>spec_EscNorm.l0 k s (o ++ strOfNums [n]) (j + 1)) (fun k=>?_) hr,ha.more hh ?_⟩
    ·simp only [spec_EscNorm.j2]
     rw [hm,spec_plain,hp]
     simp only [Option.bind_some]
     rw [if_pos trivial,if_pos (by omega),w3]
    ·rw [L_append,hx];unfold enc;rw [hp];rfl
   | false =>
    obtain ⟨x,hx,hxL,hsz⟩:=spec_sign hn0 hn1
    obtain ⟨r,hr,ha⟩:=ih (j + 1) (o ++ x) (by omega) (by omega) (by omega) (by rw [ByteArray.size_append,hsz];omega)
    rw [hq] at ha
    refine ⟨r,Ev.step (f:=fun k=>spec_EscNorm.l0 k s (o ++ x) (j + 1)) (fun k=>?_) hr,ha.more hh ?_⟩
    ·simp only [spec_EscNorm.j2]
     rw [hm,spec_plain,hp,hx]
     simp only [Option.bind_some]
     rw [if_neg (by simp),if_pos (by omega),w3]
    ·rw [L_append,hxL];unfold enc;rw [hp];rfl
  have fails:head1 (b :: q) = none → ∀ r:ByteArray × Bool,r = ((⟨#[]⟩:ByteArray),false) → Answers o (b :: q) r:=by
   intro hh r hr
   unfold Answers;rw [esc_none hh (by simp)];exact hr
  have bad:Ev (fun k=>spec_EscNorm.j1 k s o i true) ((⟨#[]⟩:ByteArray),false) :=
   Ev.step (f:=fun _=>some ((⟨#[]⟩:ByteArray),false)) (fun k=>by simp [spec_EscNorm.j1]) (Ev.const rfl)
  by_cases h37:b = 37
  rotate_left
  ·obtain ⟨r,hr,ha⟩:=meet i b q (by omega) hlt (by omega) (by omega) (by rw [show (i + 1).toNat = i.toNat + 1 by omega];exact hn) (by simp [head1,h37])
   refine ⟨r,Ev.step (f:=fun k=>spec_EscNorm.j2 k s o i b) (fun k=>?_) hr,ha⟩
   simp only [spec_EscNorm.l0]
   rw [if_pos hlt,if_pos h0,hb,if_neg h37,w64 (by omega) (by omega)]
  by_cases h2:i + 2 ≥ (s.size:Int)
  ·refine ⟨_,Ev.step (f:=fun k=>spec_EscNorm.j1 k s o i true) (fun k=>?_) bad,fails ?_ _ rfl⟩
   ·simp only [spec_EscNorm.l0]
    rw [if_pos hlt,if_pos h0,hb,if_pos h37,w2,if_pos h2]
   ·rcases q with _|⟨x,_|⟨y,q⟩⟩
    ·simp [head1,h37]
    ·simp [head1,h37]
    ·simp at hql;omega
  obtain ⟨x,q1,hq1⟩:=drop_lt (l:=L s) (i:=(i + 1).toNat) (by omega)
  obtain ⟨y,q2,hq2⟩:=drop_lt (l:=L s) (i:=(i + 2).toNat) (by omega)
  have hx:bt s (i + 1) = x:=bt_get hq1
  have hy:bt s (i + 2) = y:=bt_get hq2
  have hxb:=bt_bd s (i + 1)
  have hyb:=bt_bd s (i + 2)
  rw [hx] at hxb;rw [hy] at hyb
  have hq:q = x :: y :: q2:=by
   have e:=drop_next hq1
   rw [show (i + 1).toNat + 1 = (i + 2).toNat by omega,hq2] at e
   rw [← hn,show i.toNat + 1 = (i + 1).toNat by omega,hq1,← e]
  have hq3:(L s).drop (i + 2 + 1).toNat = q2:=by
   rw [show (i + 2 + 1).toNat = (i + 2).toNat + 1 by omega];exact drop_next hq2
  have H1:=spec_hex hxb.1 hxb.2
  have H2:=spec_hex hyb.1 hyb.2
  have enter:∀ r,Ev (fun k=>(spec_l1Hex.f k x).bind fun t101=>(if t101 < 0 then (spec_EscNorm.j1 k s o i true) else ((spec_l1Hex.f k y).bind fun t102=>(spec_EscNorm.j1 k s o i (decide (t102 < 0)))))) r → Ev (fun k=>spec_EscNorm.l0 k s o i) r:=by
   intro r hr
   refine Ev.step (fun k=>?_) hr
   simp only [spec_EscNorm.l0]
   rw [if_pos hlt,if_pos h0,hb,if_pos h37,w2,if_neg h2,w1,if_pos (by omega),if_pos (by omega),if_pos (by omega),if_pos (by omega),hx,hy]
  cases hvx:hexv x with
  | none =>
   rw [hvx] at H1
   refine ⟨_,enter _ (Ev.bind H1 (Ev.pos (by simp) bad)),fails ?_ _ rfl⟩
   rw [hq];simp [head1,h37,hvx]
  | some a =>
   rw [hvx] at H1
   simp only [Option.getD_some] at H1
   have ha:=hexv_bd hvx
   cases hvy:hexv y with
   | none =>
    rw [hvy] at H2
    refine ⟨_,enter _ (Ev.bind H1 (Ev.neg (by omega) (Ev.bind H2 ?_))),fails ?_ _ rfl⟩
    ·simpa using bad
    ·rw [hq];simp [head1,h37,hvx,hvy]
   | some c =>
    rw [hvy] at H2
    simp only [Option.getD_some] at H2
    have hc:=hexv_bd hvy
    obtain ⟨r,hr,hA⟩:=meet (i + 2) (a * 16 + c) q2 (by omega) (by omega) (by omega) (by omega) hq3 (by rw [hq];simp [head1,h37,hvx,hvy])
    refine ⟨r,enter _ (Ev.bind H1 (Ev.neg (by omega) (Ev.bind H2 ?_))),hA⟩
    have hd:decide (c < 0) = false:=decide_eq_false (by omega)
    rw [hd]
    refine Ev.step (f:=fun k=>(spec_l1Hex.f k x).bind fun t103=>(spec_l1Hex.f k y).bind fun t104=>spec_EscNorm.j2 k s o (i + 2) (wrap64 (wrap64 (t103 * 16) + t104))) (fun k=>?_) (Ev.bind H1 (Ev.bind H2 ?_))
    ·simp only [spec_EscNorm.j1]
     rw [if_neg (by simp),w1,w2,if_pos (by omega),if_pos (by omega)]
     have p1:0 ≤ i + 2:=by omega
     have p2:i + 2 < (s.size:Int):=by omega
     simp only [p1,p2,if_true,hx,hy]
    ·rw [w64 (x:=a * 16) (by omega) (by omega),w64 (x:=a * 16 + c) (by omega) (by omega)]
     exact hr

/-- What is written in one way, as a pair. -/
def IsNorm (s:ByteArray) (r:ByteArray × Bool):Prop :=
 match escN (L s) with
 | some t=>r.2 = true ∧ L r.1 = t
 | none=>r = ((⟨#[]⟩:ByteArray),false)

theorem IsNorm.one {s:ByteArray} {r r':ByteArray × Bool} (h:IsNorm s r) (h':IsNorm s r'):r = r':=by
 unfold IsNorm at h h'
 cases he:escN (L s) with
 | none=>rw [he] at h h';rw [h,h']
 | some t =>
  rw [he] at h h'
  exact Prod.ext (L_inj (by rw [h.2,h'.2])) (by rw [h.1,h'.1])

theorem of_answers {s:ByteArray} {r:ByteArray × Bool} (hs:s.size ≤ 60) (h:Answers (⟨#[]⟩:ByteArray) (L s) r):IsNorm s r:=by
 unfold IsNorm escN
 rw [if_pos (by rw [L_length];exact hs)]
 unfold Answers at h
 cases he:esc (L s) with
 | none=>rw [he] at h;exact h
 | some t=>rw [he] at h;exact ⟨h.1,by rw [h.2];rfl⟩

theorem too_long {s:ByteArray} (hs:(s.size:Int) > 60):IsNorm s ((⟨#[]⟩:ByteArray),false):=by
 unfold IsNorm escN
 rw [if_neg (by rw [L_length];omega)]

theorem spec_ev (s:ByteArray):∃ r,Ev (fun k=>spec_EscNorm.f k s) r ∧ IsNorm s r:=by
 unfold spec_EscNorm.f
 by_cases h:(s.size:Int) > 60
 ·exact ⟨_,Ev.pos h (Ev.const rfl),too_long h⟩
 ·obtain ⟨r,hr,ha⟩:=spec_loop s (by omega) s.size 0 (⟨#[]⟩:ByteArray) (by omega) (by omega) (by omega) (by rw [show (⟨#[]⟩:ByteArray).size = 0 from rfl];omega)
  exact ⟨r,Ev.neg h hr,of_answers (by omega) (by simpa using ha)⟩

end Go.Proofs.YtochmlkladpfgaaDoor.EscF
