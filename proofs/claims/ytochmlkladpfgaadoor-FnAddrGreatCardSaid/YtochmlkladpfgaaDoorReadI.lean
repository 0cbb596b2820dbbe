/- What the program reads of an address: the same function of lists as the reference's. Condition: texts of at most four thousand bytes. -/
-- Cut down by a program of this session (wip/tools/prune.py) to what its claim can name.
import Derived.Test.YtochmlkladpfgaaDoorPx4
import Derived.Test.YtochmlkladpfgaaDoorPx5
import Derived.Test.YtochmlkladpfgaaDoorPx6
import Derived.Test.YtochmlkladpfgaaDoorAddrI
import Derived.Test.YtochmlkladpfgaaDoorCutI
import Derived.Test.YtochmlkladpfgaaDoorPathI
namespace Go.Proofs.YtochmlkladpfgaaDoor.ReadI
open Go hiding stepT
open Go.RowKit Go.Proofs.YtochmlkladpfgaaDoor.P Go.Proofs.YtochmlkladpfgaaDoor.Lib Go.Proofs.YtochmlkladpfgaaDoor.CutP Go.Proofs.YtochmlkladpfgaaDoor.PathP Go.Proofs.YtochmlkladpfgaaDoor.AddrP Go.Proofs.YtochmlkladpfgaaDoor.AddrF Go.Proofs.YtochmlkladpfgaaDoor.AddrR Go.Proofs.YtochmlkladpfgaaDoor.CutI Go.Proofs.YtochmlkladpfgaaDoorW.PrintWords Go.Proofs.YtochmlkladpfgaaDoorW.PrintLast
open Go.Proofs.YtochmlkladpfgaaDoor.EscP (escN)
set_option linter.unusedVariables false
set_option linter.unusedSimpArgs false

theorem small_ev {s:ByteArray} (hs:s.size ≤ 1000000):∃ r,impl_smallLetters.f s = some r ∧ L r = (L s).map smallOf ∧ r.size = s.size:=by
 have e:L (strOfNums ((bytesOf s).map impl_smallLetters.lo)) = (L s).map smallOf:=by
  rw [L_strOfNums]
  ·rfl
  ·intro x hx
   obtain ⟨y,hy,rfl⟩:=List.mem_map.mp hx
   have:=L_range s y hy
   unfold impl_smallLetters.lo
   split <;> omega
 refine ⟨_,by unfold impl_smallLetters.f;rw [if_pos hs],e,?_⟩
 rw [← L_length,e,List.length_map,L_length]

theorem way_loop (h ask:ByteArray) (found:Bool) (aft:T) (hask:escN aft = some (L ask)) (hq:ask.size ≤ 10000000) (ts:List ByteArray) (hh:h.size ≤ 10000000) (hts:ts.length ≤ 4001) (d:Nat):∀ (i:Int) (o:List ByteArray),0 ≤ i → i ≤ ts.length → (ts.length:Int) - i ≤ d → tot o + 200 * (ts.length - i) ≤ 2000000 →
  ∃ r,Ev (fun k=>impl_readWay.l0 k h ask found o ts (ts.length:Int) i) r ∧ IsAd r (wayRest (L h) (o.map L) ((ts.drop i.toNat).map L) found aft):=by
 have hend:∀ (i:Int) (o:List ByteArray),i = ts.length → tot o ≤ 2000000 → ∃ r,Ev (fun k=>impl_readWay.l0 k h ask found o ts (ts.length:Int) i) r ∧ IsAd r (wayRest (L h) (o.map L) ((ts.drop i.toNat).map L) found aft):=by
  intro i o hi ho
  have hlo:=len_tot o
  have C:=PathI.impl_ev (x:=o) (by omega)
  have htc:=tot_clean o
  rw [List.drop_of_length_le (by omega),List.map_nil]
  have step:∀ k,impl_readWay.l0 (k + 1) h ask found o ts (ts.length:Int) i = (impl_PathClean.f k o).bind fun t194=>((impl_AddrOk.f k h t194 found ask).bind fun t198=>(if t198 = true then (some (h,t194,found,ask,true)) else (some noAd))):=by
   intro k
   rw [impl_readWay.l0,if_neg (by omega)];rfl
  unfold wayRest
  rw [hask]
  have e0:escAll [] = some []:=rfl
  rw [e0]
  simp only [List.append_nil]
  have O:=AddrI.ok_ev (h:=h) (l:=clean o) (b:=found) (q:=ask) hh (by omega) hq
  have e:adOf h (clean o) found ask = ⟨L h,cleanT (o.map L),found,L ask⟩:=by
   unfold adOf;rw [clean_L]
  rw [e] at O
  cases hok:ok ⟨L h,cleanT (o.map L),found,L ask⟩ with
  | true =>
   rw [hok] at O
   refine ⟨(h,clean o,found,ask,true),Ev.step step (Ev.bind C (Ev.bind O (Ev.pos rfl (Ev.const rfl)))),?_⟩
   rw [if_pos rfl]
   exact ⟨rfl,e⟩
  | false =>
   rw [hok] at O
   refine ⟨noAd,Ev.step step (Ev.bind C (Ev.bind O (Ev.neg Bool.false_ne_true (Ev.const rfl)))),?_⟩
   rw [if_neg Bool.false_ne_true]
   rfl
 induction d with
 | zero=>intro i o h0 h1 hd ho;exact hend i o (by omega) (by omega)
 | succ d ih =>
  intro i o h0 h1 hd ho
  by_cases hlt:i < (ts.length:Int)
  rotate_left
  ·exact hend i o (by omega) (by omega)
  have hlo:=len_tot o
  obtain ⟨p,t,hpt⟩:=drop_lt (l:=ts) (i:=i.toNat) (by omega)
  have hp:rdOf ByteArray.empty ts i = p:=rdOf_get hpt
  have hn:ts.drop (i + 1).toNat = t:=by rw [show (i + 1).toNat = i.toNat + 1 by omega];exact drop_next' hpt
  have w1:wrap64 (i + 1) = i + 1:=w64 (by omega) (by omega)
  obtain ⟨r,hr,hno⟩:=EscI.impl_ev p
  have hsh:=norm_short hno
  have step:∀ k,impl_readWay.l0 (k + 1) h ask found o ts (ts.length:Int) i = (impl_EscNorm.f k p).bind fun bt189=>(if bt189.2 = true then (if o.length < 8796093022208 then (impl_readWay.l0 k h ask found (o ++ [bt189.1]) ts (ts.length:Int) (i + 1)) else (none)) else (some noAd)):=by
   intro k
   rw [impl_readWay.l0,if_pos hlt,if_pos h0,if_pos hlt,hp,w1];rfl
  rw [hpt,List.map_cons]
  unfold EscF.IsNorm at hno
  cases he:escN (L p) with
  | none =>
   rw [he] at hno
   refine ⟨noAd,Ev.step step (Ev.bind hr (Ev.neg (by rw [hno];exact Bool.false_ne_true) (Ev.const rfl))),?_⟩
   unfold wayRest
   rw [escAll_cons,he,hask]
   rfl
  | some a =>
   rw [he] at hno
   have ht1:tot (o ++ [r.1]) = tot o + (r.1.size + 1):=by rw [tot_append];simp [tot]
   obtain ⟨r',hr',ha⟩:=ih (i + 1) (o ++ [r.1]) (by omega) (by omega) (by omega) (by omega)
   refine ⟨r',Ev.step step (Ev.bind hr (Ev.pos hno.1 (Ev.pos (by omega) hr'))),?_⟩
   rw [hn,List.map_append,List.map_cons,List.map_nil,hno.2] at ha
   have e:wayRest (L h) (o.map L) (L p :: t.map L) found aft = wayRest (L h) (o.map L ++ [a]) (t.map L) found aft:=by
    unfold wayRest
    rw [escAll_cons,he,hask]
    cases escAll (t.map L) with
    | none=>rfl
    | some ps=>simp
   rw [e];exact ha

theorem way_ev {h:ByteArray} {frm:List ByteArray} {way:ByteArray} (hh:h.size ≤ 10000000) (hf:tot frm ≤ 1000000) (hw:way.size ≤ 4000) :
  ∃ r,Ev (fun k=>impl_readWay.f k h frm way) r ∧ IsAd r (readWay (L h) (frm.map L) (L way)):=by
 obtain ⟨c,hc,e1,e2,e3,z1,z2⟩:=CutI.cut_ev (s:=way) 63 (by omega)
 have e63:((63:UInt8).toNat:Int) = 63:=rfl
 rw [e63] at e1 e2 e3
 obtain ⟨ts,hts,e4⟩:=CutI.split_ev (s:=c.1) 47 (by omega)
 rw [show ((47:UInt8).toNat:Int) = 47 from rfl] at e4
 have hlen:ts.length ≤ 4001:=by
  have:=splitT_len 47 (L c.1)
  rw [← e4,List.length_map,L_length] at this
  omega
 have hlf:=len_tot frm
 obtain ⟨r,hr,hno⟩:=EscI.impl_ev c.2.1
 have hsh:=norm_short hno
 unfold EscF.IsNorm at hno
 unfold impl_readWay.f
 rw [readWay_rest,← e1,← e2,← e3,← e4]
 cases he:escN (L c.2.1) with
 | none =>
  rw [he] at hno
  refine ⟨noAd,Ev.bind0 hc (Ev.bind hr (Ev.neg (by rw [hno];exact Bool.false_ne_true) (Ev.const rfl))),?_⟩
  unfold wayRest
  rw [he];rfl
 | some a =>
  rw [he] at hno
  obtain ⟨r',hr',ha⟩:=way_loop h r.1 c.2.2 (L c.2.1) (by rw [he,hno.2]) (by omega) ts hh hlen ts.length 0 frm (by omega) (by omega) (by omega) (by omega)
  refine ⟨r',Ev.bind0 hc (Ev.bind hr (Ev.pos hno.1 (Ev.bind0 (a:=frm) ?_ (Ev.bind hts hr')))),by simpa using ha⟩
  unfold slices_Clone_string_string.f
  rw [if_pos (by omega)]

/-! the whole -/
theorem whole_ev {s:ByteArray} (hs:s.size ≤ 4000):∃ r,Ev (fun k=>impl_readWhole.f k s) r ∧ IsAd r (readText (L s)):=by
 have hLs:=L_length s
 have h2:(⟨#[47,47]⟩:ByteArray).size = 2:=rfl
 have hpre:(s.extract 0 2).toList = (⟨#[47,47]⟩:ByteArray).toList ↔ (L s).take 2 = [47,47]:=by
  rw [show (⟨#[47,47]⟩:ByteArray).toList = ([47,47]:List UInt8) from by rw [Go.ByteArray.toList_eq],toList_lit,L_extract,List.drop_zero];rfl
 by_cases hp:2 ≤ s.size ∧ (L s).take 2 = [47,47]
 rotate_left
 ·have hno:readText (L s) = none:=by
   unfold readText
   split
   ·rename_i rest heq
    exfalso
    apply hp
    rw [heq]
    rw [heq] at hLs
    simp at hLs
    exact ⟨by omega,rfl⟩
   ·rfl
  have hcp:strings_CutPrefix.f s (⟨#[47,47]⟩:ByteArray) = some (s,false):=by
   unfold strings_CutPrefix.f stringslite_CutPrefix.f stringslite_HasPrefix.f
   rw [h2]
   by_cases c:(s.size:Int) ≥ ((2:Nat):Int)
   ·have hn:¬ (L s).take 2 = [47,47]:=fun e=>hp ⟨by omega,e⟩
    have hf:((s.extract 0 2).toList == (⟨#[47,47]⟩:ByteArray).toList) = false:=beq_eq_false_iff_ne.mpr fun e=>hn (hpre.mp e)
    rw [if_pos c,if_pos (by omega),if_pos (by omega),show ((((2:Nat):Int)):Int).toNat = 2 from rfl,hf]
    rfl
   ·rw [if_neg c];rfl
  rw [hno]
  refine ⟨noAd,?_,rfl⟩
  unfold impl_readWhole.f
  exact Ev.bind0 hcp (Ev.neg Bool.false_ne_true (Ev.const rfl))
 obtain ⟨h2s,hp⟩:=hp
 have hcp:strings_CutPrefix.f s (⟨#[47,47]⟩:ByteArray) = some (s.extract 2 s.size,true):=by
  unfold strings_CutPrefix.f stringslite_CutPrefix.f stringslite_HasPrefix.f
  have ht:((s.extract 0 2).toList == (⟨#[47,47]⟩:ByteArray).toList) = true:=beq_iff_eq.mpr (hpre.mpr hp)
  rw [h2,if_pos (by omega),if_pos (by omega),if_pos (by omega),show ((((2:Nat):Int)):Int).toNat = 2 from rfl,ht]
  rw [Option.bind_some,if_pos rfl,if_pos (by omega),if_pos (by omega)]
  rfl
 obtain ⟨t,ht⟩:∃ t,s.extract 2 s.size = t:=⟨_,rfl⟩
 rw [ht] at hcp
 have htz:t.size ≤ 4000:=by rw [← ht,ByteArray.size_extract];omega
 have eL:readText (L s) = readWhole (L t):=by
  have e:L s = 47 :: 47 :: L t:=by
   have:=List.take_append_drop 2 (L s)
   rw [hp] at this
   rw [← ht,L_extract,← hLs,List.take_length]
   exact this.symm
  rw [e];rfl
 rw [eL]
 unfold impl_readWhole.f
 have hDt:=D_length t
 have hany:strings_IndexAny.f t (⟨#[47,63]⟩:ByteArray) = some (Go.Lib.indexAny (D t) [47,63]):=by
  unfold strings_IndexAny.f
  rw [if_pos ⟨rfl,by omega⟩];rfl
 unfold readWhole
 rcases any_ix (D t) with ⟨k1,k2,k3⟩|⟨n,k1,k2,k3,k4⟩
 ·obtain ⟨m,hm,em,hms⟩:=small_ev (s:=t.extract 0 ((t.size:Int)).toNat) (by rw [ByteArray.size_extract];omega)
  have hmz:m.size ≤ 10000000:=by rw [hms,ByteArray.size_extract];omega
  obtain ⟨r,hr,ha⟩:=way_ev (h:=m) (frm:=[]) (way:=t.extract ((t.size:Int)).toNat t.size) hmz (Nat.zero_le _) (by rw [ByteArray.size_extract];omega)
  refine ⟨r,Ev.bind0 hcp (Ev.pos rfl (Ev.bind0 (hany.trans (by rw [k1])) (Ev.pos (by omega) (Ev.pos (by omega) (Ev.pos (by omega) (Ev.bind0 hm (Ev.bind hr (Ev.const rfl)))))))),?_⟩
  have l1:L (t.extract 0 ((t.size:Int)).toNat) = L t:=by rw [L_extract,List.drop_zero,List.take_of_length_le (by rw [L_length];omega)]
  have l2:L (t.extract ((t.size:Int)).toNat t.size) = []:=by rw [L_extract,List.drop_of_length_le (by rw [List.length_take];omega)]
  rw [em,l1,l2] at ha
  rw [L_N t,show t.data.toList = D t from rfl,k2,k3]
  exact ha
 ·obtain ⟨m,hm,em,hms⟩:=small_ev (s:=t.extract 0 ((n:Int)).toNat) (by rw [ByteArray.size_extract];omega)
  have hmz:m.size ≤ 10000000:=by rw [hms,ByteArray.size_extract];omega
  obtain ⟨r,hr,ha⟩:=way_ev (h:=m) (frm:=[]) (way:=t.extract ((n:Int)).toNat t.size) hmz (Nat.zero_le _) (by rw [ByteArray.size_extract];omega)
  have hq0:¬ ((n:Int) < 0):=by omega
  have hq1:(0:Int) ≤ (n:Int):=by omega
  have hq2:(n:Int) ≤ (t.size:Int):=by omega
  refine ⟨r,Ev.bind0 hcp (Ev.pos rfl (Ev.bind0 (hany.trans (by rw [k1])) (Ev.neg hq0 (Ev.pos (by first|exact hq2|exact ⟨hq1,hq2⟩|exact hq1) (Ev.pos (by first|exact hq2|exact ⟨hq1,hq2⟩|exact hq1) (Ev.bind0 hm (Ev.bind hr (Ev.const rfl)))))))),?_⟩
  have l1:L (t.extract 0 ((n:Int)).toNat) = (L t).take n:=by rw [L_extract,List.drop_zero];rfl
  have l2:L (t.extract ((n:Int)).toNat t.size) = (L t).drop n:=by
   rw [L_extract,List.take_of_length_le (by rw [L_length];exact Nat.le_refl _)];rfl
  rw [em,l1,l2] at ha
  have hN:L t = N (D t):=rfl
  rw [hN,k3,k4]
  rw [hN] at ha
  exact ha
end Go.Proofs.YtochmlkladpfgaaDoor.ReadI
