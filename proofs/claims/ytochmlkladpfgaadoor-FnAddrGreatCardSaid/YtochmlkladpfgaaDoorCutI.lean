/- What the library's functions that cut a text at a byte answer: the same as the reference's. Condition: texts of at most a hundred thousand bytes. -/
-- Cut down by a program of this session (wip/tools/prune.py) to what its claim can name.
import Derived.Test.YtochmlkladpfgaaDoorPx4
import Derived.Test.YtochmlkladpfgaaDoorPx5
import Derived.Test.YtochmlkladpfgaaDoorByteP
namespace Go.Proofs.YtochmlkladpfgaaDoor.CutI
open Go Go.RowKit Go.Proofs.YtochmlkladpfgaaDoor.P Go.Proofs.YtochmlkladpfgaaDoor.Lib Go.Proofs.YtochmlkladpfgaaDoor.CutP Go.Proofs.YtochmlkladpfgaaDoor.AddrP Go.Proofs.YtochmlkladpfgaaDoorW.PrintWords Go.Proofs.YtochmlkladpfgaaDoorW.PrintLast
set_option linter.unusedVariables false
set_option linter.unusedSimpArgs false

def N (l:List UInt8):T:=l.map fun b=>(b.toNat:Int)
theorem L_N (s:ByteArray):L s = N s.data.toList:=rfl
def D (s:ByteArray):List UInt8:=s.data.toList
theorem D_length (s:ByteArray):(D s).length = s.size:=(Go.Lib.size_eq s).symm
theorem D_extract (s:ByteArray) (i j:Nat):D (s.extract i j) = ((D s).take j).drop i:=by
 simp [D,ByteArray.data_extract,Array.toList_extract,List.drop_take]
theorem ne_neg (n:Nat):¬ (((n:Int) == -1) = true):=fun e=>by
 have:=beq_iff_eq.mp e
 omega
theorem wz {n:Nat} (h:n ≤ 200000):wrap64 ((n:Int) + 0) = n:=by rw [w64 (by omega) (by omega)];omega
theorem wo {n:Nat} (h:n ≤ 200000):wrap64 ((n:Int) + ((1:Nat):Int)) = n + 1:=w64 (by omega) (by omega)
/-- Where a byte stands, and how a text is cut there. -/
theorem ix (c:UInt8):∀ l:List UInt8,(Go.Lib.indexByte l c = -1 ∧ cutT c.toNat (N l) = (N l,[],false) ∧ l.count c = 0) ∨
  ∃ n:Nat,Go.Lib.indexByte l c = n ∧ n < l.length ∧ cutT c.toNat (N l) = ((N l).take n,(N l).drop (n + 1),true) ∧ l.count c = (l.drop (n + 1)).count c + 1
 | []=>.inl ⟨rfl,rfl,rfl⟩
 | b :: l=>by
  by_cases hb:b = c
  ·subst hb
   refine .inr ⟨0,?_,by simp,?_,by simp⟩
   ·simp [Go.Lib.indexByte]
   ·simp [N,cutT]
  ·have hbn:(b == c) = false:=beq_eq_false_iff_ne.mpr hb
   have hn:¬ (b.toNat:Int) = (c.toNat:Int):=fun e=>hb (byte_inj _ _ e)
   have hcut:cutT c.toNat (N (b :: l)) = ((b.toNat:Int) :: (cutT c.toNat (N l)).1,(cutT c.toNat (N l)).2.1,(cutT c.toNat (N l)).2.2):=by
    show cutT _ ((b.toNat:Int) :: N l) = _
    rw [cutT,if_neg hn]
   have hcnt:(b :: l).count c = l.count c:=List.count_cons_of_ne (fun e=>hb e)
   rcases ix c l with ⟨h1,h2,h3⟩|⟨n,h1,h2,h3,h4⟩
   ·refine .inl ⟨?_,?_,hcnt.trans h3⟩
    ·rw [Go.Lib.indexByte,hbn,h1];rfl
    ·rw [hcut,h2];rfl
   ·refine .inr ⟨n + 1,?_,by simp;omega,?_,?_⟩
    ·rw [Go.Lib.indexByte,hbn,h1]
     rw [if_neg Bool.false_ne_true,if_neg (ne_neg n)]
     push_cast;rfl
    ·rw [hcut,h3];rfl
    ·rw [hcnt,h4]
     rfl
theorem index_one (s:ByteArray) (c:UInt8):stringslite_Index.f s (⟨#[c]⟩:ByteArray) = some (Go.Lib.indexByte (D s) c):=by
 unfold stringslite_Index.f
 rw [if_pos (show (⟨#[c]⟩:ByteArray).size = 1 from rfl)]
 rfl
theorem cut_ev {s:ByteArray} (c:UInt8) (hs:s.size ≤ 100000) :
  ∃ r,strings_Cut.f s (⟨#[c]⟩:ByteArray) = some r ∧ L r.1 = (cutT c.toNat (L s)).1 ∧ L r.2.1 = (cutT c.toNat (L s)).2.1 ∧ r.2.2 = (cutT c.toNat (L s)).2.2 ∧ r.1.size ≤ s.size ∧ r.2.1.size ≤ s.size:=by
 have hone:(⟨#[c]⟩:ByteArray).size = 1:=rfl
 have hl:=D_length s
 unfold strings_Cut.f stringslite_Cut.f
 rw [index_one,Option.bind_some]
 rcases ix c (D s) with ⟨h1,h2,_⟩|⟨n,h1,h2,h3,_⟩
 ·rw [h1,if_neg (by omega),Option.bind_some]
  refine ⟨_,rfl,?_,?_,?_,Nat.le_refl _,Nat.zero_le _⟩
  ·rw [L_N,show s.data.toList = D s from rfl,h2]
  ·rw [L_N s,show s.data.toList = D s from rfl,h2];rfl
  ·rw [L_N,show s.data.toList = D s from rfl,h2]
 ·have w1:wrap64 ((n:Int) + ((1:Nat):Int)) = n + 1:=w64 (by omega) (by omega)
  rw [h1,if_pos (by omega),if_pos (by omega),if_pos (by omega),hone,w1,if_pos (by omega),if_pos (by omega),Option.bind_some]
  refine ⟨_,rfl,?_,?_,?_,?_,?_⟩
  ·rw [L_extract,L_N,show s.data.toList = D s from rfl,h3];simp
  ·rw [L_extract,L_N,show s.data.toList = D s from rfl,h3]
   show ((N (D s)).take s.size).drop (((n:Int) + 1).toNat) = (N (D s)).drop (n + 1)
   rw [List.take_of_length_le (by simp [N];omega)]
   congr 1
  ·rw [L_N,show s.data.toList = D s from rfl,h3]
  ·rw [ByteArray.size_extract];omega
  ·rw [ByteArray.size_extract];omega
theorem take_set {α:Type} (l:List α) (i:Nat) (x:α) (h:i < l.length):(l.set i x).take (i + 1) = l.take i ++ [x]:=by
 rw [List.take_succ_eq_append_getElem (by rw [List.length_set];exact h),List.getElem_set_self,List.take_set_of_le (Nat.le_refl _)]
theorem split_loop (c:UInt8) (d:Nat):∀ (s:ByteArray) (x:List ByteArray) (i m:Int),s.size ≤ 100000 → 0 ≤ i → i + d = m → m < 200000 → (x.length:Int) = m + 1 → (D s).count c = d →
  ∃ r,Ev (fun k=>strings_genSplit.l0 k s (⟨#[c]⟩:ByteArray) 0 m x i) r ∧ r.map L = (x.take i.toNat).map L ++ splitT c.toNat (L s):=by
 have hone:(⟨#[c]⟩:ByteArray).size = 1:=rfl
 induction d with
 | zero =>
  intro s x i m hs h0 him hm hx hc
  have w1:wrap64 (i + 1) = i + 1:=w64 (by omega) (by omega)
  refine ⟨_,Ev.step (f:=fun _=>some ((x.set i.toNat s).take (i + 1).toNat)) (fun k=>?_) (Ev.const rfl),?_⟩
  ·rw [strings_genSplit.l0,if_neg (by omega),if_pos h0,if_pos (by omega),w1,if_pos (by omega),if_pos (by omega)]
  ·rw [show (i + 1).toNat = i.toNat + 1 by omega,take_set _ _ _ (by omega),List.map_append,splitT_cut]
   rcases ix c (D s) with ⟨_,h2,_⟩|⟨n,_,_,_,h4⟩
   ·rw [L_N s,show s.data.toList = D s from rfl,h2];rfl
   ·omega
 | succ d ih =>
  intro s x i m hs h0 him hm hx hc
  have hl:=D_length s
  rcases ix c (D s) with ⟨_,_,h3⟩|⟨n,h1,h2,h3,h4⟩
  ·rw [h3] at hc;cases hc
  have hn:n < s.size:=by rw [← hl];exact h2
  have hc4:((D s).drop (n + 1)).count c = d:=by
   rw [hc] at h4
   exact (Nat.succ.inj h4).symm
  have hd:D (s.extract (n + 1) s.size) = (D s).drop (n + 1):=by rw [D_extract,List.take_of_length_le (Nat.le_of_eq hl)]
  have hc5:(D (s.extract (n + 1) s.size)).count c = d:=by rw [hd];exact hc4
  clear h4 h2 hc hl hd hc4
  have hlt:i < m:=by omega
  have hsz:(s.extract (n + 1) s.size).size ≤ 100000:=by rw [ByteArray.size_extract];omega
  have hxl:((x.set i.toNat (s.extract 0 n)).length:Int) = m + 1:=by rw [List.length_set];exact hx
  obtain ⟨r,hr,er⟩:=ih (s.extract (n + 1) s.size) (x.set i.toNat (s.extract 0 n)) (i + 1) m hsz (by omega) (by omega) hm hxl hc5
  clear hc5 hsz hxl ih
  have w1:wrap64 (i + 1) = i + 1:=w64 (by omega) (by omega)
  have w2:wrap64 ((n:Int) + 0) = n:=wz (by clear w1;omega)
  have w3:wrap64 ((n:Int) + ((1:Nat):Int)) = n + 1:=wo (by clear w1 w2;omega)
  refine ⟨r,Ev.step (fun k=>?_) hr,?_⟩
  ·have g:¬ ((n:Int) < 0) ∧ (0:Int) ≤ n ∧ (n:Int) ≤ (s.size:Int) ∧ i < (x.length:Int) ∧ (0:Int) ≤ n + 1 ∧ (n:Int) + 1 ≤ (s.size:Int):=by clear w1 w2 w3 er hr h3;omega
   obtain ⟨g1,g2,g3,g4,g5,g6⟩:=g
   rw [strings_genSplit.l0,if_pos hlt]
   unfold strings_Index.f
   rw [index_one,h1,Option.bind_some,Option.bind_some,if_neg g1,w2,if_pos g2,if_pos g3,if_pos h0,if_pos g4,hone,w3,if_pos g5,if_pos g6,w1]
   rfl
  ·clear w1 w2 w3
   rw [er,show (i + 1).toNat = i.toNat + 1 by omega,take_set _ _ _ (by omega),splitT_cut _ (L s),L_N s,show s.data.toList = D s from rfl,h3,if_pos rfl]
   rw [List.map_append,List.append_assoc,List.map_cons,List.map_nil,L_extract,L_extract,List.drop_zero]
   rw [show (L s).take s.size = L s from List.take_of_length_le (by rw [L_length];exact Nat.le_refl _)]
   rfl
theorem split_ev {s:ByteArray} (c:UInt8) (hs:s.size ≤ 100000):∃ r,Ev (fun k=>strings_Split.f k s (⟨#[c]⟩:ByteArray)) r ∧ r.map L = splitT c.toNat (L s):=by
 have hone:(⟨#[c]⟩:ByteArray).size = 1:=rfl
 have hl:=D_length s
 have hcl:(D s).count c ≤ s.size:=by rw [← hl];exact List.count_le_length
 have w1:wrap64 (((D s).count c:Int) + 1) = (D s).count c + 1:=w64 (by omega) (by omega)
 have w2:wrap64 ((s.size:Int) + 1) = s.size + 1:=w64 (by omega) (by omega)
 have w3:wrap64 (((D s).count c:Int) + 1 - 1) = (D s).count c:=by rw [w64 (by omega) (by omega)];omega
 have hmn:mn (((D s).count c:Int) + 1) ((s.size:Int) + 1) = (D s).count c + 1:=by unfold mn;omega
 obtain ⟨r,hr,er⟩:=split_loop c ((D s).count c) s (List.replicate ((((D s).count c:Int) + 1):Int).toNat (⟨#[]⟩:ByteArray)) 0 ((D s).count c) hs (by omega) (by omega) (by omega) (by rw [List.length_replicate];omega) rfl
 refine ⟨r,?_,by rw [er];simp⟩
 unfold strings_Split.f
 refine Ev.bind (a:=r) ?_ (Ev.const rfl)
 unfold strings_genSplit.f
 refine Ev.neg (by omega) (Ev.neg ?_ (Ev.pos (by omega) (Ev.bind0 (a:=((D s).count c:Int)) ?_ ?_)))
 ·rw [toList_lit];simp [L_N,N]
 ·unfold strings_Count.f
  rw [if_pos hone]
  rfl
 ·rw [w1]
  refine Ev.step (f:=fun k=>strings_genSplit.l0 k s (⟨#[c]⟩:ByteArray) 0 ((D s).count c) (List.replicate ((((D s).count c:Int) + 1):Int).toNat (⟨#[]⟩:ByteArray)) 0) (fun k=>?_) hr
  rw [strings_genSplit.j0,w2,hmn,if_pos (by omega),if_pos (by omega),w3]
/-- Where the house ends. -/
theorem any_ix:∀ l:List UInt8,(Go.Lib.indexAny l [47,63] = -1 ∧ (N l).takeWhile inHouse = N l ∧ (N l).dropWhile inHouse = []) ∨
  ∃ n:Nat,Go.Lib.indexAny l [47,63] = n ∧ n < l.length ∧ (N l).takeWhile inHouse = (N l).take n ∧ (N l).dropWhile inHouse = (N l).drop n
 | []=>.inl ⟨rfl,rfl,rfl⟩
 | b :: l=>by
  by_cases hb:b = 47 ∨ b = 63
  ·have hh:inHouse (b.toNat:Int) = false:=by rcases hb with rfl|rfl <;> rfl
   refine .inr ⟨0,?_,by simp,?_,?_⟩
   ·rw [Go.Lib.indexAny,if_pos (by rcases hb with rfl|rfl <;> rfl)];rfl
   ·show (((b.toNat:Int)) :: N l).takeWhile inHouse = _
    rw [List.takeWhile_cons,hh];rfl
   ·show (((b.toNat:Int)) :: N l).dropWhile inHouse = _
    rw [List.dropWhile_cons,hh];rfl
  ·have h1:¬ b = 47:=fun e=>hb (.inl e)
   have h2:¬ b = 63:=fun e=>hb (.inr e)
   have hcon:([47,63]:List UInt8).contains b = false:=by simp [h1,h2]
   have hh:inHouse (b.toNat:Int) = true:=by
    have e1:¬ (b.toNat:Int) = 47:=fun e=>h1 (byte_inj b 47 e)
    have e2:¬ (b.toNat:Int) = 63:=fun e=>h2 (byte_inj b 63 e)
    simp [inHouse,e1,e2]
   have ht:(N (b :: l)).takeWhile inHouse = (b.toNat:Int) :: (N l).takeWhile inHouse:=by
    show (((b.toNat:Int)) :: N l).takeWhile inHouse = _
    rw [List.takeWhile_cons,hh];rfl
   have hd:(N (b :: l)).dropWhile inHouse = (N l).dropWhile inHouse:=by
    show (((b.toNat:Int)) :: N l).dropWhile inHouse = _
    rw [List.dropWhile_cons,hh];rfl
   rcases any_ix l with ⟨k1,k2,k3⟩|⟨n,k1,k2,k3,k4⟩
   ·refine .inl ⟨?_,?_,?_⟩
    ·rw [Go.Lib.indexAny,hcon,k1];rfl
    ·rw [ht,k2];rfl
    ·rw [hd,k3]
   ·refine .inr ⟨n + 1,?_,by simp;omega,?_,?_⟩
    ·rw [Go.Lib.indexAny,hcon,k1,if_neg Bool.false_ne_true,if_neg (ne_neg n)]
     push_cast;rfl
    ·rw [ht,k3];rfl
    ·rw [hd,k4];rfl
end Go.Proofs.YtochmlkladpfgaaDoor.CutI
