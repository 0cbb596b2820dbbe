/- What a reader of draws answers: a place within the bounds that it is asked for, one step on; never none. Condition: a code of bytes, at most 2000, and at most a million picks ahead. -/
-- Cut down by a program of this session (wip/tools/prune.py) to what its claim can name.
import Derived.Test.YtochmlkladpfgaaDoorPx2
import Derived.Test.YtochmlkladpfgaaDoorLib
namespace Go.Proofs.YtochmlkladpfgaaDoor.Draw
open Go Go.RowKit Go.Proofs.YtochmlkladpfgaaDoor.P Go.Proofs.YtochmlkladpfgaaDoor.Lib Go.Proofs.YtochmlkladpfgaaDoorW.PrintWords Go.Proofs.YtochmlkladpfgaaDoorW.PrintLast
set_option linter.unusedVariables false
set_option linter.unusedSimpArgs false

theorem wb {x M:Int} (h0:0 ≤ x) (h1:x ≤ M) (hM:M ≤ 9223372036854775807):0 ≤ wrap64 x ∧ wrap64 x ≤ M:=by
 rw [w64 (by omega) (by omega)];exact ⟨h0,h1⟩

theorem bits_xor (a b:Int) (ha:0 ≤ a) (ha':a < 4611686018427387904) (hb:0 ≤ b) (hb':b < 4611686018427387904):0 ≤ Go.bits .xor .i64 a b ∧ Go.bits .xor .i64 a b < 4611686018427387904:=by
 obtain ⟨m,rfl⟩:=Int.eq_ofNat_of_zero_le ha
 obtain ⟨n,rfl⟩:=Int.eq_ofNat_of_zero_le hb
 have hm:m < 2 ^ 62:=by omega
 have hn:n < 2 ^ 62:=by omega
 have hx:m ^^^ n < 2 ^ 62:=Nat.xor_lt_two_pow hm hn
 have e:Go.bits .xor .i64 (m:Int) (n:Int) = ((m ^^^ n:Nat):Int):=by
  simp only [Go.bits,BitVec.ofInt_natCast,BitVec.toNat_xor,BitVec.toNat_ofNat]
  have h1:m % 2 ^ IntKind.i64.bits = m:=Nat.mod_eq_of_lt (by simp [IntKind.bits];omega)
  have h2:n % 2 ^ IntKind.i64.bits = n:=Nat.mod_eq_of_lt (by simp [IntKind.bits];omega)
  rw [h1,h2,IntKind.wrap_i64]
  omega
 rw [e]
 omega

/-- A code that is read. -/
def CodeOk (l:List Int):Prop:=l.length ≤ 2000 ∧ ∀ x ∈ l,0 ≤ x ∧ x ≤ 255

theorem CodeOk.rd {l:List Int} (h:CodeOk l) (i:Int):0 ≤ rd l i ∧ rd l i ≤ 255:=by
 unfold Go.Proofs.YtochmlkladpfgaaDoorW.PrintWords.rd
 rw [List.getD_eq_getElem?_getD]
 rcases Nat.lt_or_ge i.toNat l.length with hi|hi
 ·rw [List.getElem?_eq_getElem hi]
  exact h.2 _ (List.getElem_mem hi)
 ·rw [List.getElem?_eq_none hi]
  exact ⟨by decide,by decide⟩

theorem tmod_bd {a n:Int} (ha:0 ≤ a) (hn:0 < n):0 ≤ a.tmod n ∧ a.tmod n < n:=by
 rw [Int.tmod_eq_emod_of_nonneg ha]
 exact ⟨Int.emod_nonneg _ (by omega),Int.emod_lt_of_pos _ hn⟩

theorem pick_ev {l:List Int} (hl:CodeOk l) {p n:Int} (hp:0 ≤ p) (hp2:p ≤ 1000000) (hn:1 ≤ n) (hn2:n ≤ 1000000) :
  ∃ v,Ev (fun k=>spec_l6Rd_pick.f k l p n) (v,p + 1) ∧ 0 ≤ v ∧ v < n:=by
 have e1:wrap64 (p + 1) = p + 1:=w64 (by omega) (by omega)
 have e2:wrap64 (p + 1 - 1) = p:=by rw [w64 (by omega) (by omega)];omega
 have hlen:=hl.1
 by_cases h0:l = []
 ·subst h0
  refine ⟨0,⟨1,fun k hk=>?_⟩,by omega,by omega⟩
  obtain ⟨m,rfl⟩:∃ m,k = m + 1:=⟨k - 1,by omega⟩
  show spec_l6Rd_pick.f (m + 1) [] p n = _
  unfold spec_l6Rd_pick.f
  rw [if_neg (by omega),e1]
  simp [spec_l6Rd_pick.j0]
 have hpos:0 < l.length:=List.length_pos_iff.mpr h0
 have hne:((l.length:Int) == 0) = false:=beq_eq_false_iff_ne.mpr (by omega)
 by_cases hlt:p < (l.length:Int)
 ·have hr:=hl.rd p
  have hw:=wb hr.1 hr.2 (by omega)
  have ht:=tmod_bd hw.1 (show 0 < n by omega)
  refine ⟨_,⟨1,fun k hk=>?_⟩,ht⟩
  obtain ⟨m,rfl⟩:∃ m,k = m + 1:=⟨k - 1,by omega⟩
  show spec_l6Rd_pick.f (m + 1) l p n = _
  unfold spec_l6Rd_pick.f
  rw [if_neg (by omega),e1,hne]
  simp only [spec_l6Rd_pick.j0,e2]
  rw [if_neg (by simp),if_pos hlt,if_pos hp,if_neg (by omega)]
 ·have key:∃ v,(∀ m,spec_l6Rd_pick.j0 (m + 1) n false l (p + 1) = some (v,p + 1)) ∧ 0 ≤ v ∧ v < n:=by
   simp only [spec_l6Rd_pick.j0,e2]
   have t1:=tmod_bd hp (show 0 < (l.length:Int) by omega)
   have p7:0 ≤ p * 7:=by omega
   have b1:=wb p7 (show p * 7 ≤ 7000000 by omega) (by omega)
   generalize ha:wrap64 (p * 7) = a at *
   have b2:=wb (show 0 ≤ a + 3 by omega) (show a + 3 ≤ 7000003 by omega) (by omega)
   generalize hb:wrap64 (a + 3) = b at *
   have t2:=tmod_bd b2.1 (show 0 < (l.length:Int) by omega)
   have r1:=hl.rd (p.tmod l.length)
   have r2:=hl.rd (b.tmod l.length)
   generalize hc:rd l (p.tmod l.length) = c at *
   generalize hd:rd l (b.tmod l.length) = d at *
   have b3:=wb r1.1 r1.2 (by omega)
   generalize he:wrap64 c = e at *
   have b4:=wb r2.1 r2.2 (by omega)
   generalize hf:wrap64 d = f at *
   have b5:=wb (show 0 ≤ e * 131 by omega) (show e * 131 ≤ 33405 by omega) (by omega)
   generalize hg:wrap64 (e * 131) = g at *
   have b6:=wb (show 0 ≤ f * 1117 by omega) (show f * 1117 ≤ 284835 by omega) (by omega)
   generalize hh:wrap64 (f * 1117) = h at *
   have b7:=wb (show 0 ≤ g + h by omega) (show g + h ≤ 1000000 by omega) (by omega)
   generalize hi:wrap64 (g + h) = i at *
   have b8:=wb (show 0 ≤ p * 29 by omega) (show p * 29 ≤ 29000000 by omega) (by omega)
   generalize hj:wrap64 (p * 29) = j at *
   have b9:=wb (show 0 ≤ i + j by omega) (show i + j ≤ 30000000 by omega) (by omega)
   generalize hk:wrap64 (i + j) = q at *
   have d1:0 ≤ p.tdiv l.length ∧ p.tdiv l.length ≤ p:=by
    rw [Int.tdiv_eq_ediv_of_nonneg hp]
    exact ⟨Int.ediv_nonneg hp (by omega),Int.ediv_le_self _ hp⟩
   generalize hm:p.tdiv (l.length:Int) = m at *
   have b10:=wb d1.1 (show m ≤ 1000000 by omega) (by omega)
   generalize hn':wrap64 m = o at *
   have b11:=wb (show 0 ≤ o * 53 by omega) (show o * 53 ≤ 53000000 by omega) (by omega)
   generalize ho:wrap64 (o * 53) = s at *
   have b12:=wb (show 0 ≤ q + s by omega) (show q + s ≤ 100000000 by omega) (by omega)
   generalize hq:wrap64 (q + s) = x at *
   have d2:0 ≤ x.tdiv 64 ∧ x.tdiv 64 ≤ x:=by
    rw [Int.tdiv_eq_ediv_of_nonneg b12.1]
    omega
   have b13:=wb d2.1 (show x.tdiv 64 ≤ 100000000 by omega) (by omega)
   have bx:=bits_xor x (wrap64 (x.tdiv 64)) b12.1 (by omega) b13.1 (by omega)
   have tx:=tmod_bd bx.1 (show 0 < n by omega)
   refine ⟨_,fun m'=>?_,tx⟩
   rw [if_neg (by simp),if_neg hlt,if_neg (by omega),if_pos t1.1,if_pos t1.2,if_pos t2.1,if_pos t2.2,if_neg (by omega)]
  obtain ⟨v,h,hv⟩:=key
  refine ⟨v,⟨1,fun k hk=>?_⟩,hv⟩
  obtain ⟨m,rfl⟩:∃ m,k = m + 1:=⟨k - 1,by omega⟩
  show spec_l6Rd_pick.f (m + 1) l p n = _
  unfold spec_l6Rd_pick.f
  rw [if_neg (by omega),e1,hne]
  exact h m

theorem of_ev {l:List Int} (hl:CodeOk l) {p:Int} (hp:0 ≤ p) (hp2:p ≤ 1000000) {xs:List ByteArray} (hx:1 ≤ xs.length) (hx2:xs.length ≤ 1000000) :
  ∃ v ∈ xs,Ev (fun k=>spec_l6Rd_of.f k l p xs) (v,p + 1):=by
 obtain ⟨v,hv,h0,h1⟩:=pick_ev hl hp hp2 (show (1:Int) ≤ (xs.length:Int) by omega) (by omega)
 have hlt:v.toNat < xs.length:=by omega
 refine ⟨xs[v.toNat],List.getElem_mem hlt,?_⟩
 unfold spec_l6Rd_of.f
 refine Ev.bind hv ?_
 refine Ev.pos h0 (Ev.pos h1 (Ev.const ?_))
 unfold rdOf
 rw [List.getD_eq_getElem?_getD,List.getElem?_eq_getElem hlt]
 rfl

/-- One of a list's, handed on. -/
theorem of_pair {l:List Int} (hl:CodeOk l) {p:Int} (hp:0 ≤ p) (hp2:p ≤ 1000000) {xs:List ByteArray} {B:Nat} (hx:1 ≤ xs.length) (hx2:xs.length ≤ 1000000) (hB:∀ x ∈ xs,x.size ≤ B) :
  ∃ v,Ev (fun k=>(spec_l6Rd_of.f k l p xs).bind fun bt=>some (bt.1,bt.2)) (v,p + 1) ∧ v.size ≤ B:=by
 obtain ⟨v,hv,he⟩:=of_ev hl hp hp2 hx hx2
 exact ⟨v,Ev.bind he (Ev.const rfl),hB v hv⟩
/-- A code is read from its begin. -/
theorem open_ev {l:List Int} (hw:∀ x ∈ l,(Lit.int .u8 x).wf = true):∃ l',spec_l6Open.f l = some (l',0) ∧ CodeOk l':=by
 have hb:∀ x ∈ l,0 ≤ x ∧ x ≤ 255:=by
  intro x hx
  have:=hw x hx
  simp only [Lit.wf,IntKind.min,IntKind.max,IntKind.signed,IntKind.bits,Bool.and_eq_true,decide_eq_true_eq] at this
  simp at this
  omega
 unfold spec_l6Open.f
 by_cases h:(l.length:Int) > 2000
 ·rw [if_pos h,if_pos (by omega)]
  exact ⟨_,rfl,by rw [List.length_take];omega,fun x hx=>hb x (List.mem_of_mem_take hx)⟩
 ·rw [if_neg h]
  exact ⟨_,rfl,by omega,hb⟩

end Go.Proofs.YtochmlkladpfgaaDoor.Draw
