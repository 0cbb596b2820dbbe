/- Where one comes from an address by a reference: both sides, the same function of lists. Condition: texts of at most two million bytes. -/
-- Cut down by a program of this session (wip/tools/prune.py) to what its claim can name.
import Derived.Test.YtbnnamjaljohiaaDoorPx3
import Derived.Test.YtbnnamjaljohiaaDoorPx5
import Derived.Test.YtbnnamjaljohiaaDoorPx6
import Derived.Test.YtbnnamjaljohiaaDoorPx7
import Derived.Test.YtbnnamjaljohiaaDoorReadB
import Derived.Test.YtbnnamjaljohiaaDoorAddrJ
import Derived.Test.YtbnnamjaljohiaaDoorAddrI
import Derived.Test.YtbnnamjaljohiaaDoorPathC
namespace Go.Proofs.YtbnnamjaljohiaaDoor.JoinS
open Go hiding stepT
open Go.RowKit Go.Proofs.YtbnnamjaljohiaaDoor.P Go.Proofs.YtbnnamjaljohiaaDoor.Lib Go.Proofs.YtbnnamjaljohiaaDoor.CutP Go.Proofs.YtbnnamjaljohiaaDoor.PathP Go.Proofs.YtbnnamjaljohiaaDoor.AddrP Go.Proofs.YtbnnamjaljohiaaDoor.AddrF Go.Proofs.YtbnnamjaljohiaaDoor.AddrR Go.Proofs.YtbnnamjaljohiaaDoor.AddrD Go.Proofs.YtbnnamjaljohiaaDoor.DrawA Go.Proofs.YtbnnamjaljohiaaDoor.ReadB Go.Proofs.YtbnnamjaljohiaaDoorW.PrintWords Go.Proofs.YtbnnamjaljohiaaDoorW.PrintLast
set_option linter.unusedVariables false
set_option linter.unusedSimpArgs false

theorem join_cases (a:Ad) (t:T):(t = [] ∧ joinText a t = some a) ∨ (∃ r,t = 47 :: 47 :: r ∧ joinText a t = readWhole r) ∨
  (∃ b r,t = b :: r ∧ t.take 2 ≠ [47,47] ∧ joinText a t = if b = 47 then readWay a.house [] t else if b = 63 then readWay a.house a.parts t else readWay a.house a.parts.dropLast t):=by
 rcases t with _|⟨b,r⟩
 ·exact .inl ⟨rfl,rfl⟩
 ·by_cases h:(b :: r).take 2 = [47,47]
  ·rcases r with _|⟨c,r⟩
   ·simp at h
   ·simp only [List.take_succ_cons,List.take_zero,List.cons.injEq,and_true] at h
    obtain ⟨rfl,rfl⟩:=h
    exact .inr (.inl ⟨r,rfl,rfl⟩)
  ·refine .inr (.inr ⟨b,r,rfl,h,?_⟩)
   unfold joinText
   split
   ·rename_i e;cases e
   ·rename_i r' e;injection e with e1 e2;subst e1 e2;exact absurd rfl h
   ·rename_i b' r' _ e;cases e;rfl

theorem tot_dropLast (l:List ByteArray):tot l.dropLast ≤ tot l:=by
 rcases List.eq_nil_or_concat l with rfl|⟨i,x,rfl⟩
 ·exact Nat.le_refl _
 ·rw [List.concat_eq_append,List.dropLast_concat,tot_append];omega
theorem map_dropLast (l:List ByteArray):l.dropLast.map L = (l.map L).dropLast:=by
 rw [List.dropLast_eq_take,List.dropLast_eq_take,List.map_take,List.length_map]
theorem pre_ev (c:ByteArray):strings_HasPrefix.f c (⟨#[47,47]⟩:ByteArray) = some (decide ((L c).take 2 = [47,47])):=by
 have h2:(⟨#[47,47]⟩:ByteArray).size = 2:=rfl
 have hLs:=L_length c
 have hpre:(c.extract 0 2).toList = (⟨#[47,47]⟩:ByteArray).toList ↔ (L c).take 2 = [47,47]:=by
  rw [show (⟨#[47,47]⟩:ByteArray).toList = ([47,47]:List UInt8) from by rw [Go.ByteArray.toList_eq],toList_lit,L_extract,List.drop_zero];rfl
 unfold strings_HasPrefix.f stringslite_HasPrefix.f
 rw [h2]
 by_cases g:(c.size:Int) ≥ ((2:Nat):Int)
 ·rw [if_pos g,if_pos (by omega),if_pos (by omega),show ((((2:Nat):Int)):Int).toNat = 2 from rfl,Option.bind_some]
  congr 1
  by_cases e:(L c).take 2 = [47,47]
  ·rw [decide_eq_true e];exact beq_iff_eq.mpr (hpre.mpr e)
  ·rw [decide_eq_false e];exact beq_eq_false_iff_ne.mpr fun x=>e (hpre.mp x)
 ·rw [if_neg g,Option.bind_some]
  rw [decide_eq_false]
  intro e
  have:=congrArg List.length e
  simp [hLs] at this
  omega
theorem bt_first {c:ByteArray} {b:Int} {r:T} (h:L c = b :: r):bt c 0 = b:=bt_get (i:=0) (b:=b) (r:=r) h

/-! the program -/
theorem impl_ev {h:ByteArray} {l:List ByteArray} {b:Bool} {q s:ByteArray} (hh:h.size ≤ 10000000) (hl:tot l ≤ 10000000) (hq:q.size ≤ 10000000) :
  ∃ r,Ev (fun k=>impl_AddrJoin.f k h l b q s) r ∧ IsAd r (joinA (adOf h l b q) (L s)):=by
 have far:Ev (fun k=>impl_AddrJoin.j0 k s true h l b q) noAd:=Ev.step (f:=fun _=>some noAd) (fun k=>by rw [impl_AddrJoin.j0,if_pos rfl];rfl) (Ev.const rfl)
 unfold impl_AddrJoin.f
 by_cases h60:(s.size:Int) > 60
 ·refine ⟨noAd,Ev.pos h60 far,?_⟩
  unfold joinA
  rw [if_neg (fun e=>by have:=e.2;rw [L_length] at this;omega)]
  rfl
 have O:=AddrI.ok_ev (b:=b) hh hl hq
 cases hok:ok (adOf h l b q) with
 | false =>
  rw [hok] at O
  refine ⟨noAd,Ev.neg h60 (Ev.bind O far),?_⟩
  unfold joinA
  rw [if_neg (fun e=>by rw [hok] at e;exact Bool.false_ne_true e.1)]
  rfl
 | true =>
 rw [hok] at O
 obtain ⟨s1,s2,s3⟩:=ok_short ((ok_iff _).mp hok)
 have hlen:=len_tot l
 have ej:joinA (adOf h l b q) (L s) = joinText (adOf h l b q) (cutT 35 (L s)).1:=by
  unfold joinA
  rw [if_pos ⟨hok,by rw [L_length];omega⟩]
 obtain ⟨c,hc,e1,_,_,z1,_⟩:=CutI.cut_ev (s:=s) 35 (by omega)
 rw [show ((35:UInt8).toNat:Int) = 35 from rfl] at e1
 rw [ej,← e1]
 have hLc:=L_length c.1
 have hP:=pre_ev c.1
 suffices go:∃ r,Ev (fun k=>(if decide ((L c.1).take 2 = [47,47]) = true then ((impl_readWhole.f k c.1).bind fun bt543=>(some (bt543.1,bt543.2.1,bt543.2.2.1,bt543.2.2.2.1,bt543.2.2.2.2))) else (if c.1.toList = ([]:List UInt8) then ((slices_Clone_string_string.f l).bind fun t550=>(some (h,t550,b,q,true))) else (if 0 < (c.1.size:Int) then (if (bt c.1 0) = 47 then ((impl_readWay.f k h ([]:List ByteArray) c.1).bind fun bt553=>(some (bt553.1,bt553.2.1,bt553.2.2.1,bt553.2.2.2.1,bt553.2.2.2.2))) else (if (bt c.1 0) = 63 then ((impl_readWay.f k h l c.1).bind fun bt560=>(some (bt560.1,bt560.2.1,bt560.2.2.1,bt560.2.2.2.1,bt560.2.2.2.2))) else (if 0 ≤ (mx (wrap64 ((l.length:Int) - 1)) 0) then (if (mx (wrap64 ((l.length:Int) - 1)) 0) ≤ (l.length:Int) then ((impl_readWay.f k h (l.take ((mx (wrap64 ((l.length:Int) - 1)) 0):Int).toNat) c.1).bind fun bt568=>(some (bt568.1,bt568.2.1,bt568.2.2.1,bt568.2.2.2.1,bt568.2.2.2.2))) else (none)) else (none)))) else (none))))) r ∧ IsAd r (joinText (adOf h l b q) (L c.1)) by
  obtain ⟨r,hr,ha⟩:=go
  exact ⟨r,Ev.neg h60 (Ev.bind O (Ev.step (fun k=>by rw [impl_AddrJoin.j0];rw [if_neg (by simp)]) (Ev.bind0 hc (Ev.bind0 hP hr)))),ha⟩
 rcases join_cases (adOf h l b q) (L c.1) with ⟨e,ea⟩|⟨r,e,ea⟩|⟨y,r,e,en,ea⟩
 ·rw [ea]
  refine ⟨(h,l,b,q,true),Ev.neg (by rw [e];simp) (Ev.pos ((toList_nil _).mpr e) (Ev.bind0 (a:=l) ?_ (Ev.const rfl))),rfl,rfl⟩
  unfold slices_Clone_string_string.f
  rw [if_pos (by omega)]
 ·rw [ea]
  obtain ⟨v,hv,ha⟩:=ReadI.whole_ev (s:=c.1) (by omega)
  rw [e] at ha
  exact ⟨v,Ev.pos (by rw [e];rfl) (Ev.bind hv (Ev.const rfl)),ha⟩
 ·rw [ea,e]
  have hb:=bt_first e
  have hne:¬ c.1.toList = ([]:List UInt8):=fun x=>by rw [(toList_nil _).mp x] at e;cases e
  have hpos:0 < (c.1.size:Int):=by rw [e] at hLc;simp at hLc;omega
  by_cases c47:y = 47
  ·obtain ⟨v,hv,ha⟩:=ReadI.way_ev (h:=h) (frm:=[]) (way:=c.1) (by omega) (Nat.zero_le _) (by omega)
   rw [e] at ha
   rw [if_pos c47]
   exact ⟨v,Ev.neg (by rw [← e,decide_eq_false en];exact Bool.false_ne_true) (Ev.neg hne (Ev.pos hpos (Ev.pos (hb.trans c47) (Ev.bind hv (Ev.const rfl))))),ha⟩
  rw [if_neg c47]
  by_cases c63:y = 63
  ·obtain ⟨v,hv,ha⟩:=ReadI.way_ev (h:=h) (frm:=l) (way:=c.1) (by omega) (by omega) (by omega)
   rw [e] at ha
   rw [if_pos c63]
   exact ⟨v,Ev.neg (by rw [← e,decide_eq_false en];exact Bool.false_ne_true) (Ev.neg hne (Ev.pos hpos (Ev.neg (by rw [hb];exact c47) (Ev.pos (hb.trans c63) (Ev.bind hv (Ev.const rfl)))))),ha⟩
  rw [if_neg c63]
  have hmx:=PathF.mx_last l (by omega)
  have htd:=tot_dropLast l
  obtain ⟨v,hv,ha⟩:=ReadI.way_ev (h:=h) (frm:=l.dropLast) (way:=c.1) (by omega) (by omega) (by omega)
  rw [e,map_dropLast] at ha
  rw [hmx,Int.toNat_natCast,← List.dropLast_eq_take]
  exact ⟨v,Ev.neg (by rw [← e,decide_eq_false en];exact Bool.false_ne_true) (Ev.neg hne (Ev.pos hpos (Ev.neg (by rw [hb];exact c47) (Ev.neg (by rw [hb];exact c63) (Ev.pos (by omega) (Ev.pos (by omega) (Ev.bind hv (Ev.const rfl)))))))),ha⟩

/-! the reference -/
theorem up_ev {h:ByteArray} {l:List ByteArray} {b:Bool} {q:ByteArray} (hl:l.length ≤ 4000000):spec_l1Up.f h l b q = some (h,l.dropLast,false,(⟨#[]⟩:ByteArray)):=by
 unfold spec_l1Up.f
 rw [PathF.mx_last l hl,Option.bind_some,if_pos (by omega),if_pos (by omega),Int.toNat_natCast,← List.dropLast_eq_take,if_pos (by simp;omega),List.nil_append]
theorem spec_ev {h:ByteArray} {l:List ByteArray} {b:Bool} {q s:ByteArray} (hh:h.size ≤ 10000000) (hl:tot l ≤ 10000000) (hq:q.size ≤ 10000000) (hs:s.size ≤ 2000000) :
  ∃ r,Ev (fun k=>spec_AddrJoin.f k h l b q s) r ∧ IsAd r (joinA (adOf h l b q) (L s)):=by
 obtain ⟨c,hc,e1,e2,e3⟩:=CutF.cut_ev (s:=s) 35 (by omega)
 have hsz:=CutF.cut_size 35 e1 e2
 have far:Ev (fun k=>spec_AddrJoin.j0 k c.1 true h l b q) noAd:=Ev.step (f:=fun _=>some noAd) (fun k=>by rw [spec_AddrJoin.j0,if_pos rfl];rfl) (Ev.const rfl)
 unfold spec_AddrJoin.f
 have O:=AddrF.ok_ev (b:=b) hh hl hq
 cases hok:ok (adOf h l b q) with
 | false =>
  rw [hok] at O
  refine ⟨noAd,Ev.bind hc (Ev.bind O (Ev.neg Bool.false_ne_true far)),?_⟩
  unfold joinA
  rw [if_neg (fun e=>by rw [hok] at e;exact Bool.false_ne_true e.1)]
  rfl
 | true =>
 rw [hok] at O
 by_cases h60:(s.size:Int) > 60
 ·refine ⟨noAd,Ev.bind hc (Ev.bind O (Ev.pos rfl (by rw [decide_eq_true h60];exact far))),?_⟩
  unfold joinA
  rw [if_neg (fun e=>by have:=e.2;rw [L_length] at this;omega)]
  rfl
 obtain ⟨s1,s2,s3⟩:=ok_short ((ok_iff _).mp hok)
 have hlen:=len_tot l
 have ej:joinA (adOf h l b q) (L s) = joinText (adOf h l b q) (cutT 35 (L s)).1:=by
  unfold joinA
  rw [if_pos ⟨hok,by rw [L_length];omega⟩]
 rw [ej,← e1]
 have hLc:=L_length c.1
 have hpre:(c.1.extract 0 2).toList = ([47,47]:List UInt8) ↔ (L c.1).take 2 = [47,47]:=by
  rw [toList_lit,L_extract,List.drop_zero];rfl
 suffices go:∃ r,Ev (fun k=>spec_AddrJoin.j1 k c.1 (decide ((L c.1).take 2 = [47,47])) h l b q) r ∧ IsAd r (joinText (adOf h l b q) (L c.1)) by
  obtain ⟨r,hr,ha⟩:=go
  refine ⟨r,Ev.bind hc (Ev.bind O (Ev.pos rfl ?_)),ha⟩
  rw [decide_eq_false h60]
  by_cases h2:(c.1.size:Int) ≥ 2
  ·have hd:((c.1.extract 0 2).toList == ([47,47]:List UInt8)) = decide ((L c.1).take 2 = [47,47]):=by
    by_cases e:(L c.1).take 2 = [47,47]
    ·rw [decide_eq_true e];exact beq_iff_eq.mpr (hpre.mpr e)
    ·rw [decide_eq_false e];exact beq_eq_false_iff_ne.mpr fun x=>e (hpre.mp x)
   exact Ev.step (fun k=>by rw [spec_AddrJoin.j0,if_neg Bool.false_ne_true,if_pos h2,if_pos (by omega),if_pos h2,hd]) hr
  ·have hd:decide ((L c.1).take 2 = [47,47]) = false:=decide_eq_false (fun e=>by
    have:=congrArg List.length e
    simp [hLc] at this
    omega)
   rw [hd] at hr
   exact Ev.step (fun k=>by rw [spec_AddrJoin.j0,if_neg Bool.false_ne_true,if_neg h2]) hr
 have J1:∀ k,spec_AddrJoin.j1 (k + 1) c.1 true h l b q = (if 2 ≤ (c.1.size:Int) then ((spec_l1Whole.f k (c.1.extract 2 c.1.size)).bind fun bt495=>(some (bt495.1,bt495.2.1,bt495.2.2.1,bt495.2.2.2.1,bt495.2.2.2.2))) else (none)):=fun k=>by rw [spec_AddrJoin.j1,if_pos rfl]
 have J:∀ k,spec_AddrJoin.j1 (k + 1) c.1 false h l b q = (if c.1.toList = ([]:List UInt8) then ((some (([]:List ByteArray):List ByteArray)).bind fun y502=>(if y502.length + l.length < 8796093022208 then (some (h,(y502 ++ l),b,q,true)) else (none))) else (if 0 < (c.1.size:Int) then (if (bt c.1 0) = 47 then ((spec_l1Way.f k h ([]:List ByteArray) false (⟨#[]⟩:ByteArray) c.1).bind fun bt508=>(some (bt508.1,bt508.2.1,bt508.2.2.1,bt508.2.2.2.1,bt508.2.2.2.2))) else (if (bt c.1 0) = 63 then ((spec_l1Way.f k h l false (⟨#[]⟩:ByteArray) c.1).bind fun bt515=>(some (bt515.1,bt515.2.1,bt515.2.2.1,bt515.2.2.2.1,bt515.2.2.2.2))) else ((spec_l1Up.f h l b q).bind fun bt522=>((spec_l1Way.f k bt522.1 bt522.2.1 bt522.2.2.1 bt522.2.2.2 c.1).bind fun bt528=>(some (bt528.1,bt528.2.1,bt528.2.2.1,bt528.2.2.2.1,bt528.2.2.2.2)))))) else (none))):=fun k=>by rw [spec_AddrJoin.j1,if_neg Bool.false_ne_true]
 rcases join_cases (adOf h l b q) (L c.1) with ⟨e,ea⟩|⟨r,e,ea⟩|⟨y,r,e,en,ea⟩
 ·rw [ea,e,show decide (([]:T).take 2 = [47,47]) = false from rfl]
  exact ⟨(h,[] ++ l,b,q,true),Ev.step J (Ev.pos ((toList_nil _).mpr e) (Ev.bind0 rfl (Ev.pos (by show 0 + l.length < 8796093022208;omega) (Ev.const rfl)))),rfl,rfl⟩
 ·rw [ea]
  have h2:2 ≤ (c.1.size:Int):=by rw [e] at hLc;simp at hLc;omega
  have hd:decide ((L c.1).take 2 = [47,47]) = true:=by rw [e];rfl
  rw [hd]
  obtain ⟨v,hv,ha⟩:=AddrR.whole_ev (s:=c.1.extract 2 c.1.size) (by rw [ByteArray.size_extract];omega)
  rw [L_extract,← hLc,List.take_length,e] at ha
  exact ⟨v,Ev.step J1 (Ev.pos h2 (Ev.bind hv (Ev.const rfl))),ha⟩
 ·rw [ea,decide_eq_false en,e]
  have hb:=bt_first e
  have hne:¬ c.1.toList = ([]:List UInt8):=fun x=>by rw [(toList_nil _).mp x] at e;cases e
  have hpos:0 < (c.1.size:Int):=by rw [e] at hLc;simp at hLc;omega
  have n47:∀ {z:Int},¬ y = z → ¬ bt c.1 0 = z:=fun n x=>n (hb.symm.trans x)
  by_cases c47:y = 47
  ·obtain ⟨v,hv,ha⟩:=AddrR.way_ev (h:=h) (frm:=[]) (b:=false) (q:=(⟨#[]⟩:ByteArray)) (way:=c.1) (by omega) (Nat.zero_le _) (by omega)
   rw [e] at ha
   rw [if_pos c47]
   exact ⟨v,Ev.step J (Ev.neg hne (Ev.pos hpos (Ev.pos (hb.trans c47) (Ev.bind hv (Ev.const rfl))))),ha⟩
  rw [if_neg c47]
  by_cases c63:y = 63
  ·obtain ⟨v,hv,ha⟩:=AddrR.way_ev (h:=h) (frm:=l) (b:=false) (q:=(⟨#[]⟩:ByteArray)) (way:=c.1) (by omega) (by omega) (by omega)
   rw [e] at ha
   rw [if_pos c63]
   exact ⟨v,Ev.step J (Ev.neg hne (Ev.pos hpos (Ev.neg (n47 c47) (Ev.pos (hb.trans c63) (Ev.bind hv (Ev.const rfl)))))),ha⟩
  rw [if_neg c63]
  have htd:=tot_dropLast l
  obtain ⟨v,hv,ha⟩:=AddrR.way_ev (h:=h) (frm:=l.dropLast) (b:=false) (q:=(⟨#[]⟩:ByteArray)) (way:=c.1) (by omega) (by omega) (by omega)
  rw [e,map_dropLast] at ha
  exact ⟨v,Ev.step J (Ev.neg hne (Ev.pos hpos (Ev.neg (n47 c47) (Ev.neg (n47 c63) (Ev.bind0 (up_ev (by omega)) (Ev.bind hv (Ev.const rfl))))))),ha⟩

theorem both_ev {h:ByteArray} {l:List ByteArray} {b:Bool} {q s:ByteArray} (hh:h.size ≤ 10000000) (hl:tot l ≤ 10000000) (hq:q.size ≤ 10000000) (hs:s.size ≤ 2000000) :
  ∃ r,Ev (fun k=>spec_AddrJoin.f k h l b q s) r ∧ Ev (fun k=>impl_AddrJoin.f k h l b q s) r ∧ IsAd r (joinA (adOf h l b q) (L s)) ∧ r.1.size ≤ 60 ∧ tot r.2.1 ≤ 100 ∧ r.2.1.length ≤ 100 ∧ r.2.2.2.1.size ≤ 60:=by
 obtain ⟨r,hr,ha⟩:=spec_ev (b:=b) hh hl hq hs
 obtain ⟨r',hr',ha'⟩:=impl_ev (b:=b) (s:=s) hh hl hq
 obtain rfl:=ha.one ha'
 have S:r.1.size ≤ 60 ∧ tot r.2.1 ≤ 100 ∧ r.2.2.2.1.size ≤ 60:=by
  cases hj:joinA (adOf h l b q) (L s) with
  | none=>rw [hj] at ha;have ha:r = noAd:=ha;subst ha;exact ⟨Nat.zero_le _,Nat.zero_le _,Nat.zero_le _⟩
  | some a =>
   rw [hj] at ha
   have ho:=(join_ok hj).1
   rw [← ha.2] at ho
   exact ok_short ho
 have:=len_tot r.2.1
 exact ⟨r,hr,hr',ha,S.1,S.2.1,by omega,S.2.2⟩
end Go.Proofs.YtbnnamjaljohiaaDoor.JoinS
