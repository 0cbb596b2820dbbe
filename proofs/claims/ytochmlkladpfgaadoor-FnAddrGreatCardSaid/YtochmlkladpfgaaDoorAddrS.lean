/- What the functions of the reference on an address answer; drawn addresses. Condition: texts of at most four thousand bytes. -/
-- Cut down by a program of this session (wip/tools/prune.py) to what its claim can name.
import Derived.Test.YtochmlkladpfgaaDoorPx2
import Derived.Test.YtochmlkladpfgaaDoorPx3
import Derived.Test.YtochmlkladpfgaaDoorPx4
import Derived.Test.YtochmlkladpfgaaDoorByteP
import Derived.Test.YtochmlkladpfgaaDoorPathC
import Derived.Test.YtochmlkladpfgaaDoorEscF
import Derived.Test.YtochmlkladpfgaaDoorCutF
import Derived.Test.YtochmlkladpfgaaDoorDraw
namespace Go.Proofs.YtochmlkladpfgaaDoor.AddrF
open Go hiding stepT
open Go.RowKit Go.Proofs.YtochmlkladpfgaaDoor.P Go.Proofs.YtochmlkladpfgaaDoor.Lib Go.Proofs.YtochmlkladpfgaaDoor.CutP Go.Proofs.YtochmlkladpfgaaDoor.PathP Go.Proofs.YtochmlkladpfgaaDoor.AddrP Go.Proofs.YtochmlkladpfgaaDoorW.PrintWords Go.Proofs.YtochmlkladpfgaaDoorW.PrintLast
open Go.Proofs.YtochmlkladpfgaaDoor.EscP (escN)
set_option linter.unusedVariables false
set_option linter.unusedSimpArgs false

def adOf (h:ByteArray) (ps:List ByteArray) (b:Bool) (q:ByteArray):Ad:=⟨L h,ps.map L,b,L q⟩
theorem idle_iff (p:ByteArray):idleT (L p) = true ↔ Idle p:=by
 unfold idleT Idle;simp
theorem up_iff (p:ByteArray):upT (L p) = true ↔ Up p:=by
 unfold upT Up;simp
theorem step_L (o:List ByteArray) (p:ByteArray):(stepP o p).map L = AddrP.stepT (o.map L) (L p):=by
 by_cases hi:Idle p
 ·rw [stepP_idle hi,stepT_idle ((idle_iff p).mpr hi)]
 ·by_cases hu:Up p
  ·rw [stepP_up hu]
   unfold AddrP.stepT
   rw [if_neg (fun h=>hi ((idle_iff p).mp h)),if_pos ((up_iff p).mpr hu),List.map_dropLast]
  ·rw [stepP_way ⟨hi,hu⟩]
   unfold AddrP.stepT
   rw [if_neg (fun h=>hi ((idle_iff p).mp h)),if_neg (fun h=>hu ((up_iff p).mp h))]
   simp
theorem fold_L (l:List ByteArray):∀ o:List ByteArray,(l.foldl stepP o).map L = (l.map L).foldl AddrP.stepT (o.map L):=by
 induction l with
 | nil=>intro o;rfl
 | cons p l ih=>intro o;rw [List.foldl_cons,ih,step_L,List.map_cons,List.foldl_cons]
theorem clean_L (l:List ByteArray):(clean l).map L = cleanT (l.map L):=by
 unfold clean cleanT;rw [fold_L];rfl

theorem house_loop (s:ByteArray) (hs:s.size ≤ 10000000) (d:Nat):∀ i:Int,0 ≤ i → i ≤ s.size → (s.size:Int) - i ≤ d →
  Ev (fun k=>spec_l1House.l0 k s i) (((L s).drop i.toNat).all smallB && (decide (1 ≤ (L s).length) && decide ((L s).length ≤ 5))):=by
 have hL:=L_length s
 have hend:∀ i:Int,i = s.size → Ev (fun k=>spec_l1House.l0 k s i) (((L s).drop i.toNat).all smallB && (decide (1 ≤ (L s).length) && decide ((L s).length ≤ 5))):=by
  intro i hi
  rw [List.drop_of_length_le (by omega)]
  refine Ev.step (f:=fun _=>(spec_l6In.f (s.size:Int) 1 5).bind fun t=>some t) (fun k=>?_) (Ev.const ?_)
  ·simp only [spec_l1House.l0];rw [if_neg (by omega)]
  ·unfold spec_l6In.f
   rw [hL,List.all_nil,Bool.true_and]
   by_cases h1:(s.size:Int) ≥ 1
   ·rw [if_pos h1,decide_eq_true (show 1 ≤ s.size by omega),Bool.true_and,Option.bind_some]
    congr 1;rw [decide_eq_decide];omega
   ·rw [if_neg h1,decide_eq_false (show ¬ 1 ≤ s.size by omega),Bool.false_and,Option.bind_some]
 induction d with
 | zero=>intro i h0 h1 hd;exact hend i (by omega)
 | succ d ih =>
  intro i h0 h1 hd
  by_cases hlt:i < (s.size:Int)
  rotate_left
  ·exact hend i (by omega)
  obtain ⟨b,q,hbr⟩:=drop_lt (l:=L s) (i:=i.toNat) (by omega)
  have hb:bt s i = b:=bt_get hbr
  have hn:(L s).drop (i + 1).toNat = q:=by rw [show (i + 1).toNat = i.toNat + 1 by omega];exact drop_next hbr
  have I:=ih (i + 1) (by omega) (by omega) (by omega)
  rw [hn] at I
  have w1:wrap64 (i + 1) = i + 1:=w64 (by omega) (by omega)
  rw [hbr,List.all_cons]
  by_cases c1:b < 97
  ·have e:smallB b = false:=by unfold smallB;rw [decide_eq_false (show ¬ 97 ≤ b by omega),Bool.false_and]
   rw [e,Bool.false_and,Bool.false_and]
   exact Ev.step (f:=fun _=>some false) (fun k=>by simp only [spec_l1House.l0];rw [if_pos hlt,if_pos h0,hb,if_pos c1]) (Ev.const rfl)
  ·by_cases c2:b > 122
   ·have e:smallB b = false:=by unfold smallB;rw [decide_eq_false (show ¬ b ≤ 122 by omega),Bool.and_false]
    rw [e,Bool.false_and,Bool.false_and]
    exact Ev.step (f:=fun _=>some false) (fun k=>by simp only [spec_l1House.l0];rw [if_pos hlt,if_pos h0,hb,if_neg c1,if_pos c2]) (Ev.const rfl)
   ·have e:smallB b = true:=by unfold smallB;rw [decide_eq_true (show 97 ≤ b by omega),decide_eq_true (show b ≤ 122 by omega)];rfl
    rw [e,Bool.true_and]
    exact Ev.step (fun k=>by simp only [spec_l1House.l0];rw [if_pos hlt,if_pos h0,hb,if_neg c1,if_neg c2,w1]) I
theorem house_ev {s:ByteArray} (hs:s.size ≤ 10000000):Ev (fun k=>spec_l1House.f k s) (houseOk (L s)):=by
 have:=house_loop s hs s.size 0 (by omega) (by omega) (by omega)
 have e:houseOk (L s) = (((L s).drop (0:Int).toNat).all smallB && (decide (1 ≤ (L s).length) && decide ((L s).length ≤ 5))):=by
  unfold houseOk;rw [Int.toNat_zero,List.drop_zero,Bool.and_comm]
 rw [e];exact this

theorem norm_ev (s:ByteArray):Ev (fun k=>spec_l1Norm.f k s) (norm (L s)):=by
 obtain ⟨r,hr,hn⟩:=EscF.spec_ev s
 unfold spec_l1Norm.f
 refine Ev.bind hr ?_
 unfold EscF.IsNorm at hn
 unfold norm
 cases he:escN (L s) with
 | none =>
  rw [he] at hn
  subst hn
  exact Ev.neg (by simp) (Ev.const (by simp))
 | some t =>
  rw [he] at hn
  refine Ev.pos hn.1 (Ev.const ?_)
  rw [beq_toList,hn.2];simp

def restS (l:List T):T:=l.flatMap fun p=>47 :: p
theorem joinS_rest (p:T) (l:List T):joinS (p :: l) = p ++ restS l:=by
 induction l generalizing p with
 | nil=>simp [joinS,restS]
 | cons q l ih=>simp only [joinS];rw [ih];simp [restS]
def tot (l:List ByteArray):Nat:=(l.map fun p=>p.size + 1).sum
theorem tot_drop {l:List ByteArray} {i:Nat} {p:ByteArray} {q:List ByteArray} (h:l.drop i = p :: q):tot (l.drop i) = p.size + 1 + tot q:=by
 rw [h];simp [tot]
theorem len_tot (l:List ByteArray):l.length ≤ tot l:=by
 induction l with
 | nil=>simp [tot]
 | cons p l ih=>simp [tot] at ih ⊢;omega
theorem path_end {x h:ByteArray} {l:List ByteArray} {b:Bool} {q:ByteArray} {i:Int} (hq:q.size ≤ 10000000) (hx:x.size ≤ 100000000) (hi:i = l.length) :
  ∃ r,Ev (fun k=>spec_l1Path.l0 k x i h l b q) r ∧ L r = L x ++ (if b then 63 :: L q else []):=by
 have hone:(⟨#[63]⟩:ByteArray).size = 1:=rfl
 cases b with
 | true =>
  refine ⟨(x ++ (⟨#[63]⟩:ByteArray)) ++ q,Ev.step (f:=fun _=>some ((x ++ (⟨#[63]⟩:ByteArray)) ++ q)) (fun k=>?_) (Ev.const rfl),?_⟩
  ·simp only [spec_l1Path.l0]
   rw [if_neg (by omega),if_pos trivial,if_pos (by omega),if_pos (by rw [ByteArray.size_append,hone];omega)]
  ·rw [L_append,L_append,show L (⟨#[63]⟩:ByteArray) = [63] from rfl];simp
 | false =>
  refine ⟨x,Ev.step (f:=fun _=>some x) (fun k=>?_) (Ev.const rfl),by simp⟩
  simp only [spec_l1Path.l0]
  rw [if_neg (by omega),if_neg (by simp)]
theorem path_loop (h:ByteArray) (l:List ByteArray) (b:Bool) (q:ByteArray) (hl:tot l ≤ 10000000) (hq:q.size ≤ 10000000) (d:Nat):∀ (i:Int) (x:ByteArray),0 < i → i ≤ l.length → (l.length:Int) - i ≤ d → x.size + tot (l.drop i.toNat) ≤ 100000000 →
  ∃ r,Ev (fun k=>spec_l1Path.l0 k x i h l b q) r ∧ L r = L x ++ restS ((l.drop i.toNat).map L) ++ (if b then 63 :: L q else []):=by
 have hll:=len_tot l
 have hone:(⟨#[47]⟩:ByteArray).size = 1:=rfl
 induction d with
 | zero =>
  intro i x h0 h1 hd hx
  obtain ⟨r,hr,e⟩:=path_end (x:=x) (h:=h) (l:=l) (b:=b) (q:=q) (i:=i) hq (by omega) (by omega)
  refine ⟨r,hr,?_⟩
  rw [e,List.drop_of_length_le (by omega)];simp [restS]
 | succ d ih =>
  intro i x h0 h1 hd hx
  by_cases hlt:i < (l.length:Int)
  rotate_left
  ·obtain ⟨r,hr,e⟩:=path_end (x:=x) (h:=h) (l:=l) (b:=b) (q:=q) (i:=i) hq (by omega) (by omega)
   refine ⟨r,hr,?_⟩
   rw [e,List.drop_of_length_le (by omega)];simp [restS]
  obtain ⟨p,t,hpt⟩:=drop_lt (l:=l) (i:=i.toNat) (by omega)
  have hp:rdOf ByteArray.empty l i = p:=rdOf_get hpt
  have hn:l.drop (i + 1).toNat = t:=by rw [show (i + 1).toNat = i.toNat + 1 by omega];exact drop_next' hpt
  have ht:=tot_drop hpt
  have hsz:((x ++ (⟨#[47]⟩:ByteArray)) ++ p).size = x.size + 1 + p.size:=by rw [ByteArray.size_append,ByteArray.size_append,hone]
  obtain ⟨r,hr,e⟩:=ih (i + 1) ((x ++ (⟨#[47]⟩:ByteArray)) ++ p) (by omega) (by omega) (by omega) (by rw [hn,hsz];omega)
  have w1:wrap64 (i + 1) = i + 1:=w64 (by omega) (by omega)
  refine ⟨r,Ev.step (fun k=>?_) hr,?_⟩
  ·simp only [spec_l1Path.l0]
   rw [if_pos hlt,if_pos (show i > 0 from h0),if_pos (by omega),if_pos (by omega),hp,if_pos (by rw [ByteArray.size_append,hone];omega),w1]
  ·rw [e,hn,hpt,L_append,L_append,show L (⟨#[47]⟩:ByteArray) = [47] from rfl]
   simp [restS]
theorem path_ev {h:ByteArray} {l:List ByteArray} {b:Bool} {q:ByteArray} (hl:tot l ≤ 10000000) (hq:q.size ≤ 10000000) :
  ∃ r,Ev (fun k=>spec_l1Path.f k h l b q) r ∧ L r = pathT (adOf h l b q):=by
 unfold spec_l1Path.f pathT askT adOf
 have hone:(⟨#[47]⟩:ByteArray).size = 1:=rfl
 have hLone:L (⟨#[47]⟩:ByteArray) = [47]:=rfl
 cases hc:l with
 | nil =>
  obtain ⟨r,hr,e⟩:=path_end (x:=(⟨#[47]⟩:ByteArray)) (h:=h) (l:=[]) (b:=b) (q:=q) (i:=0) hq (by omega) rfl
  exact ⟨r,hr,by rw [e,hLone];simp [joinS]⟩
 | cons p t =>
  rw [← hc]
  have hll:=len_tot l
  have hp:rdOf ByteArray.empty l 0 = p:=rdOf_get (r:=t) (by simpa using hc)
  have hlen:0 < l.length:=by rw [hc];simp
  have ht:tot l = p.size + 1 + tot t:=by rw [hc];simp [tot]
  have hd:l.drop (1:Int).toNat = t:=by rw [hc];rfl
  have hsz:((⟨#[47]⟩:ByteArray) ++ p).size = 1 + p.size:=by rw [ByteArray.size_append,hone]
  obtain ⟨r,hr,e⟩:=path_loop h l b q hl hq l.length 1 ((⟨#[47]⟩:ByteArray) ++ p) (by omega) (by omega) (by omega) (by rw [hd,hsz];omega)
  have w1:wrap64 ((0:Int) + 1) = 1:=by rw [w64 (by omega) (by omega)];rfl
  refine ⟨r,Ev.step (fun k=>?_) hr,?_⟩
  ·simp only [spec_l1Path.l0]
   rw [if_pos (by omega),if_neg (by omega),if_pos (by omega),hp,if_pos (by rw [hone];omega),w1]
  ·rw [e,hd,L_append,hLone,hc,List.map_cons,joinS_rest]
   simp

theorem text_ev {h:ByteArray} {l:List ByteArray} {b:Bool} {q:ByteArray} (hh:h.size ≤ 10000000) (hl:tot l ≤ 10000000) (hq:q.size ≤ 10000000) :
  ∃ r,Ev (fun k=>spec_l1Text.f k h l b q) r ∧ L r = textT (adOf h l b q):=by
 obtain ⟨r,hr,e⟩:=path_ev (h:=h) (b:=b) hl hq
 unfold spec_l1Text.f
 have hone:(⟨#[47,47]⟩:ByteArray).size = 2:=rfl
 have hsz:((⟨#[47,47]⟩:ByteArray) ++ h).size = 2 + h.size:=by rw [ByteArray.size_append,hone]
 have hrs:r.size ≤ 100000000:=by
  rw [← L_length,e]
  have:(joinS (l.map L)).length ≤ tot l:=by
   cases l with
   | nil=>simp [joinS]
   | cons p t =>
    rw [List.map_cons,joinS_rest,List.length_append,L_length]
    have:(restS (t.map L)).length = tot t:=by
     clear hl hr e
     induction t with
     | nil=>rfl
     | cons q t ih=>simp [restS,tot,L_length] at ih ⊢;omega
    rw [this];simp [tot]
  have hLq:=L_length q
  have ha:(if b = true then 63 :: L q else []).length ≤ q.size + 1:=by
   cases b <;> simp [hLq]
  unfold pathT askT adOf
  simp only [List.length_append,List.length_cons]
  omega
 refine ⟨((⟨#[47,47]⟩:ByteArray) ++ h) ++ r,Ev.pos (by omega) (Ev.bind hr (Ev.pos (by omega) (Ev.const rfl))),?_⟩
 rw [L_append,L_append,e,show L (⟨#[47,47]⟩:ByteArray) = [47,47] from rfl]
 simp [textT,adOf]

theorem bne_toList_nil (q:ByteArray):(q.toList != ([]:List UInt8)) = !decide (L q = []):=by
 rw [Bool.eq_iff_iff];simp [toList_nil]

theorem ok_loop (h:ByteArray) (l:List ByteArray) (b:Bool) (q:ByteArray) (hh:h.size ≤ 10000000) (hl:tot l ≤ 10000000) (hq:q.size ≤ 10000000) (d:Nat):∀ i:Int,0 ≤ i → i ≤ l.length → (l.length:Int) - i ≤ d →
  Ev (fun k=>spec_AddrOk.l0 k i h l b q) (((l.drop i.toNat).map L).all (fun p=>wayT p && norm p) && decide ((textT (adOf h l b q)).length ≤ 60)):=by
 have hll:=len_tot l
 have hend:∀ i:Int,i = l.length → Ev (fun k=>spec_AddrOk.l0 k i h l b q) (((l.drop i.toNat).map L).all (fun p=>wayT p && norm p) && decide ((textT (adOf h l b q)).length ≤ 60)):=by
  intro i hi
  obtain ⟨r,hr,e⟩:=text_ev (b:=b) hh hl hq
  rw [List.drop_of_length_le (by omega),← e,L_length]
  refine Ev.step (fun k=>?_) (Ev.bind hr (f:=fun _ t=>some (decide ((t.size:Int) ≤ 60))) (Ev.const ?_))
  ·simp only [spec_AddrOk.l0];rw [if_neg (by omega)]
  ·simp;omega
 induction d with
 | zero=>intro i h0 h1 hd;exact hend i (by omega)
 | succ d ih =>
  intro i h0 h1 hd
  by_cases hlt:i < (l.length:Int)
  rotate_left
  ·exact hend i (by omega)
  obtain ⟨p,t,hpt⟩:=drop_lt (l:=l) (i:=i.toNat) (by omega)
  have hp:rdOf ByteArray.empty l i = p:=rdOf_get hpt
  have hn:l.drop (i + 1).toNat = t:=by rw [show (i + 1).toNat = i.toNat + 1 by omega];exact drop_next' hpt
  have I:=ih (i + 1) (by omega) (by omega) (by omega)
  rw [hn] at I
  have w1:wrap64 (i + 1) = i + 1:=w64 (by omega) (by omega)
  rw [hpt,List.map_cons,List.all_cons]
  have N:=norm_ev p
  refine Ev.step (f:=fun k=>(spec_l1Norm.f k p).bind fun u=>if u = true then (if p.toList = ([]:List UInt8) then some false else if p.toList = ([46]:List UInt8) then some false else if p.toList = ([46,46]:List UInt8) then some false else spec_AddrOk.l0 k (i + 1) h l b q) else some false) (fun k=>?_) (Ev.bind N ?_)
  ·simp only [spec_AddrOk.l0];rw [if_pos hlt,if_pos h0,hp,w1]
  ·cases hno:norm (L p) with
   | false=>exact Ev.neg (by simp) (Ev.const (by simp))
   | true =>
    refine Ev.pos rfl ?_
    by_cases c1:L p = []
    ·exact Ev.pos ((toList_nil p).mpr c1) (Ev.const (by simp [wayT,idleT,c1]))
    refine Ev.neg (fun h=>c1 ((toList_nil p).mp h)) ?_
    by_cases c2:L p = [46]
    ·exact Ev.pos ((toList_dot p).mpr c2) (Ev.const (by simp [wayT,idleT,c2]))
    refine Ev.neg (fun h=>c2 ((toList_dot p).mp h)) ?_
    by_cases c3:L p = [46,46]
    ·exact Ev.pos ((toList_dots p).mpr c3) (Ev.const (by simp [wayT,upT,c3]))
    refine Ev.neg (fun h=>c3 ((toList_dots p).mp h)) ?_
    have e:wayT (L p) = true:=by simp [wayT,idleT,upT,c1,c2,c3]
    rw [e,Bool.true_and,Bool.true_and]
    exact I
theorem ok_ev {h:ByteArray} {l:List ByteArray} {b:Bool} {q:ByteArray} (hh:h.size ≤ 10000000) (hl:tot l ≤ 10000000) (hq:q.size ≤ 10000000) :
  Ev (fun k=>spec_AddrOk.f k h l b q) (ok (adOf h l b q)):=by
 have hll:=len_tot l
 have far:Ev (fun k=>spec_AddrOk.j0 k true h l b q) false:=Ev.step (f:=fun _=>some false) (fun k=>by simp only [spec_AddrOk.j0];rw [if_pos trivial]) (Ev.const rfl)
 have near:Ev (fun k=>spec_AddrOk.j0 k false h l b q) ((l.map L).all (fun p=>wayT p && norm p) && decide ((textT (adOf h l b q)).length ≤ 60)):=by
  have:=ok_loop h l b q hh hl hq l.length 0 (by omega) (by omega) (by omega)
  rw [Int.toNat_zero,List.drop_zero] at this
  exact Ev.step (fun k=>by simp only [spec_AddrOk.j0];rw [if_neg (by simp)]) this
 have e:ok (adOf h l b q) = (houseOk (L h) && (decide (l.length ≤ 5) && (norm (L q) && ((b || decide (L q = [])) && ((l.map L).all (fun p=>wayT p && norm p) && decide ((textT (adOf h l b q)).length ≤ 60)))))):=by
  unfold ok
  simp only [adOf,List.length_map]
  ac_rfl
 rw [e]
 unfold spec_AddrOk.f
 refine Ev.bind (house_ev hh) ?_
 cases houseOk (L h) with
 | false=>rw [Bool.false_and];exact Ev.neg Bool.false_ne_true far
 | true =>
  rw [Bool.true_and]
  refine Ev.pos rfl ?_
  by_cases c:(l.length:Int) > 5
  ·rw [decide_eq_false (show ¬ l.length ≤ 5 by omega),Bool.false_and];exact Ev.pos c far
  ·rw [decide_eq_true (show l.length ≤ 5 by omega),Bool.true_and]
   refine Ev.neg c (Ev.bind (norm_ev q) ?_)
   cases norm (L q) with
   | false=>rw [Bool.false_and];exact Ev.neg Bool.false_ne_true far
   | true =>
    rw [Bool.true_and]
    refine Ev.pos rfl ?_
    cases b with
    | true=>rw [Bool.true_or,Bool.true_and];exact Ev.pos rfl near
    | false =>
     refine Ev.neg Bool.false_ne_true ?_
     rw [Bool.false_or,bne_toList_nil]
     by_cases cq:L q = []
     ·rw [decide_eq_true cq,Bool.true_and];exact near
     ·rw [decide_eq_false cq,Bool.false_and];exact far

end Go.Proofs.YtochmlkladpfgaaDoor.AddrF

namespace Go.Proofs.YtochmlkladpfgaaDoor.AddrR
open Go hiding stepT
open Go.RowKit Go.Proofs.YtochmlkladpfgaaDoor.P Go.Proofs.YtochmlkladpfgaaDoor.Lib Go.Proofs.YtochmlkladpfgaaDoor.CutP Go.Proofs.YtochmlkladpfgaaDoor.PathP Go.Proofs.YtochmlkladpfgaaDoor.AddrP Go.Proofs.YtochmlkladpfgaaDoor.AddrF Go.Proofs.YtochmlkladpfgaaDoorW.PrintWords Go.Proofs.YtochmlkladpfgaaDoorW.PrintLast
open Go.Proofs.YtochmlkladpfgaaDoor.EscP (escN)
set_option linter.unusedVariables false
set_option linter.unusedSimpArgs false

abbrev R5:=ByteArray × List ByteArray × Bool × ByteArray × Bool
def noAd:R5:=((⟨#[]⟩:ByteArray),([]:List ByteArray),false,(⟨#[]⟩:ByteArray),false)
/-- What is read, as five values. -/
def IsAd (r:R5):Option Ad → Prop
 | some a=>r.2.2.2.2 = true ∧ adOf r.1 r.2.1 r.2.2.1 r.2.2.2.1 = a
 | none=>r = noAd
theorem IsAd.one {r r':R5} {o:Option Ad} (h:IsAd r o) (h':IsAd r' o):r = r':=by
 cases o with
 | none=>exact h.trans h'.symm
 | some a =>
  obtain ⟨h1,h2⟩:=h
  obtain ⟨h3,h4⟩:=h'
  rw [← h4] at h2
  simp only [adOf,Ad.mk.injEq] at h2
  obtain ⟨e1,e2,e3,e4⟩:=h2
  obtain ⟨a1,a2,a3,a4,a5⟩:=r
  obtain ⟨b1,b2,b3,b4,b5⟩:=r'
  simp only at h1 h3 e1 e2 e3 e4
  rw [L_inj e1,map_inj_ L (fun _ _=>L_inj) _ _ e2,e3,L_inj e4,h1,h3]

theorem small_ev {s:ByteArray} (hs:s.size ≤ 1000000):∃ r,spec_l1Small.f s = some r ∧ L r = (L s).map smallOf ∧ r.size = s.size:=by
 have e:L (strOfNums ((bytesOf s).map spec_l1Small.lo)) = (L s).map smallOf:=by
  rw [L_strOfNums]
  ·rfl
  ·intro x hx
   obtain ⟨y,hy,rfl⟩:=List.mem_map.mp hx
   have:=L_range s y hy
   unfold spec_l1Small.lo
   split <;> omega
 refine ⟨_,by unfold spec_l1Small.f;rw [if_pos hs],e,?_⟩
 rw [← L_length,e,List.length_map,L_length]

theorem tot_append (a b:List ByteArray):tot (a ++ b) = tot a + tot b:=by simp [tot]
/-- What is written in one way is short. -/
theorem norm_short {s:ByteArray} {r:ByteArray × Bool} (h:EscF.IsNorm s r):r.1.size ≤ 180:=by
 unfold EscF.IsNorm at h
 cases he:escN (L s) with
 | none=>rw [he] at h;subst h;exact Nat.zero_le _
 | some t =>
  rw [he] at h
  rw [← L_length,h.2]
  unfold escN at he
  split at he
  ·rename_i hl
   unfold EscP.esc at he
   cases hd:EscP.dec (L s) with
   | none=>rw [hd] at he;cases he
   | some u =>
    rw [hd] at he
    cases he
    have h1:=(EscP.dec_bd _ (Nat.le_refl _) (L_range s) hd).2
    have h2:∀ v:List Int,(EscP.encs v).length ≤ 3 * v.length:=by
     intro v
     induction v with
     | nil=>exact Nat.zero_le _
     | cons x v ih =>
      unfold EscP.encs at ih ⊢
      rw [List.flatMap_cons,List.length_append,List.length_cons]
      have:(EscP.enc x).length ≤ 3:=by unfold EscP.enc;split <;> simp
      omega
    have:=h2 u
    omega
  ·cases he
theorem tot_clean (l:List ByteArray):tot (clean l) ≤ tot l:=by
 have:∀ (l o:List ByteArray),tot (l.foldl stepP o) ≤ tot o + tot l:=by
  intro l
  induction l with
  | nil=>intro o;simp [tot]
  | cons p l ih =>
   intro o
   rw [List.foldl_cons]
   have h1:=ih (stepP o p)
   have h2:tot (stepP o p) ≤ tot o + (p.size + 1):=by
    unfold stepP
    split
    ·omega
    ·split
     ·rw [List.dropLast_eq_take]
      have:∀ (n:Nat) (l:List ByteArray),tot (l.take n) ≤ tot l:=by
       intro n l
       induction l generalizing n with
       | nil=>simp
       | cons q l ih =>
        cases n with
        | zero=>simp [tot]
        | succ n=>have:=ih n;simp [tot] at this ⊢;omega
      have:=this (o.length - 1) o
      omega
     ·rw [tot_append];simp [tot]
   have h3:tot (p :: l) = p.size + 1 + tot l:=by simp [tot]
   omega
 have:=this l []
 simpa [clean,tot] using this

/-- What a way says, read from its parts on. -/
def wayRest (house:T) (done:List T) (l:List T) (found:Bool) (aft:T):Option Ad :=
 match escN aft,escAll l with
 | some a,some ps=>if ok ⟨house,cleanT (done ++ ps),found,a⟩ then some ⟨house,cleanT (done ++ ps),found,a⟩ else none
 | _,_=>none
theorem readWay_rest (house:T) (frm:List T) (way:T):readWay house frm way = wayRest house frm (splitT 47 (cutT 63 way).1) (cutT 63 way).2.2 (cutT 63 way).2.1:=by
 unfold readWay wayOf wayRest
 cases escN (cutT 63 way).2.1 with
 | none=>rfl
 | some a=>cases escAll (splitT 47 (cutT 63 way).1) <;> rfl
theorem escAll_cons (p:T) (l:List T):escAll (p :: l) = (escN p).bind fun a=>(escAll l).map fun y=>a :: y:=by
 unfold escAll
 rw [List.mapM_cons]
 cases escN p with
 | none=>rfl
 | some a=>cases List.mapM escN l <;> rfl

theorem way_loop (h:ByteArray) (frm:List ByteArray) (b:Bool) (q aft:ByteArray) (found:Bool) (ts:List ByteArray) (hh:h.size ≤ 10000000) (hts:ts.length ≤ 4001) (d:Nat):∀ (i:Int) (o:List ByteArray),0 ≤ i → i ≤ ts.length → (ts.length:Int) - i ≤ d → tot o + 200 * (ts.length - i) ≤ 2000000 →
  ∃ r,Ev (fun k=>spec_l1Way.l0 k aft found o ts i h frm b q) r ∧ IsAd r (wayRest (L h) (o.map L) ((ts.drop i.toNat).map L) found (L aft)):=by
 have hend:∀ (i:Int) (o:List ByteArray),i = ts.length → tot o ≤ 2000000 → ∃ r,Ev (fun k=>spec_l1Way.l0 k aft found o ts i h frm b q) r ∧ IsAd r (wayRest (L h) (o.map L) ((ts.drop i.toNat).map L) found (L aft)):=by
  intro i o hi ho
  have hlo:=len_tot o
  obtain ⟨r,hr,hn⟩:=EscF.spec_ev aft
  have hsh:=norm_short hn
  have C:=PathF.spec_ev (x:=o) (by omega)
  have htc:=tot_clean o
  rw [List.drop_of_length_le (by omega),List.map_nil]
  have step:∀ k,spec_l1Way.l0 (k + 1) aft found o ts i h frm b q = (spec_EscNorm.f k aft).bind fun bt264=>((spec_PathClean.f k o).bind fun t266=>(if bt264.2 = true then ((spec_AddrOk.f k h t266 found bt264.1).bind fun t270=>(if t270 = true then (some (h,t266,found,bt264.1,true)) else (some noAd))) else (some noAd))):=by
   intro k
   rw [spec_l1Way.l0,if_neg (by omega)];rfl
  unfold EscF.IsNorm at hn
  unfold wayRest
  cases he:escN (L aft) with
  | none =>
   rw [he] at hn
   refine ⟨noAd,Ev.step step (Ev.bind hr (Ev.bind C (Ev.neg ?_ (Ev.const rfl)))),rfl⟩
   rw [hn];exact Bool.false_ne_true
  | some a =>
   rw [he] at hn
   have e0:escAll [] = some []:=rfl
   rw [e0]
   simp only [List.append_nil]
   have O:=ok_ev (h:=h) (l:=clean o) (b:=found) (q:=r.1) hh (by omega) (by omega)
   have e:adOf h (clean o) found r.1 = ⟨L h,cleanT (o.map L),found,a⟩:=by
    unfold adOf;rw [clean_L,hn.2]
   rw [e] at O
   cases hok:ok ⟨L h,cleanT (o.map L),found,a⟩ with
   | true =>
    rw [hok] at O
    refine ⟨(h,clean o,found,r.1,true),Ev.step step (Ev.bind hr (Ev.bind C (Ev.pos hn.1 (Ev.bind O (Ev.pos rfl (Ev.const rfl)))))),?_⟩
    rw [if_pos rfl]
    exact ⟨rfl,e⟩
   | false =>
    rw [hok] at O
    refine ⟨noAd,Ev.step step (Ev.bind hr (Ev.bind C (Ev.pos hn.1 (Ev.bind O (Ev.neg Bool.false_ne_true (Ev.const rfl)))))),?_⟩
    rw [if_neg Bool.false_ne_true]
    rfl
 induction d with
 | zero=>intro i o h0 h1 hd ho;exact hend i o (by omega) (by omega)
 | succ d ih =>
  intro i o h0 h1 hd ho
  by_cases hlt:i < (ts.length:Int)
  rotate_left
  ·exact hend i o (by omega) (by omega)
  have hlo:=len_tot o
  obtain ⟨p,t,hpt⟩:=drop_lt (l:=ts) (i:=i.toNat) (by omega)
  have hp:rdOf ByteArray.empty ts i = p:=rdOf_get hpt
  have hn:ts.drop (i + 1).toNat = t:=by rw [show (i + 1).toNat = i.toNat + 1 by omega];exact drop_next' hpt
  have w1:wrap64 (i + 1) = i + 1:=w64 (by omega) (by omega)
  obtain ⟨r,hr,hno⟩:=EscF.spec_ev p
  have hsh:=norm_short hno
  have step:∀ k,spec_l1Way.l0 (k + 1) aft found o ts i h frm b q = (spec_EscNorm.f k p).bind fun bt259=>(if bt259.2 = true then (if o.length < 8796093022208 then (spec_l1Way.l0 k aft found (o ++ [bt259.1]) ts (i + 1) h frm b q) else (none)) else (some noAd)):=by
   intro k
   rw [spec_l1Way.l0,if_pos hlt,if_pos h0,hp,w1];rfl
  rw [hpt,List.map_cons]
  unfold EscF.IsNorm at hno
  cases he:escN (L p) with
  | none =>
   rw [he] at hno
   refine ⟨noAd,Ev.step step (Ev.bind hr (Ev.neg (by rw [hno];exact Bool.false_ne_true) (Ev.const rfl))),?_⟩
   unfold wayRest
   rw [escAll_cons,he]
   cases escN (L aft) <;> rfl
  | some a =>
   rw [he] at hno
   have ht1:tot (o ++ [r.1]) = tot o + (r.1.size + 1):=by rw [tot_append];simp [tot]
   obtain ⟨r',hr',ha⟩:=ih (i + 1) (o ++ [r.1]) (by omega) (by omega) (by omega) (by omega)
   refine ⟨r',Ev.step step (Ev.bind hr (Ev.pos hno.1 (Ev.pos (by omega) hr'))),?_⟩
   rw [hn,List.map_append,List.map_cons,List.map_nil,hno.2] at ha
   have e:wayRest (L h) (o.map L) (L p :: t.map L) found (L aft) = wayRest (L h) (o.map L ++ [a]) (t.map L) found (L aft):=by
    unfold wayRest
    rw [escAll_cons,he]
    cases escN (L aft) with
    | none=>rfl
    | some c =>
     cases escAll (t.map L) with
     | none=>rfl
     | some ps=>simp
   rw [e];exact ha

theorem way_ev {h:ByteArray} {frm:List ByteArray} {b:Bool} {q way:ByteArray} (hh:h.size ≤ 10000000) (hf:tot frm ≤ 1000000) (hw:way.size ≤ 4000) :
  ∃ r,Ev (fun k=>spec_l1Way.f k h frm b q way) r ∧ IsAd r (readWay (L h) (frm.map L) (L way)):=by
 obtain ⟨c,hc,e1,e2,e3⟩:=CutF.cut_ev (s:=way) 63 (by omega)
 have hsz:=CutF.cut_size 63 e1 e2
 obtain ⟨ts,hts,e4⟩:=CutF.split_ev (s:=c.1) 47 (by omega)
 have hlen:ts.length ≤ 4001:=by
  have:=splitT_len 47 (L c.1)
  rw [← e4,List.length_map,L_length] at this
  omega
 have hlf:=len_tot frm
 obtain ⟨r,hr,ha⟩:=way_loop h frm b q c.2.1 c.2.2 ts hh hlen ts.length 0 frm (by omega) (by omega) (by omega) (by omega)
 refine ⟨r,?_,?_⟩
 ·unfold spec_l1Way.f
  exact Ev.bind hc (Ev.bind0 rfl (Ev.pos (by simp;omega) (Ev.bind hts (by simpa using hr))))
 ·rw [readWay_rest,← e1,← e2,← e3,← e4]
  simpa using ha

theorem takeWhile_at {l:T} {n:Nat} (h:∀ x ∈ l.take n,inHouse x = true):l.takeWhile inHouse = l.take n ++ (l.drop n).takeWhile inHouse ∧ l.dropWhile inHouse = (l.drop n).dropWhile inHouse:=by
 induction l generalizing n with
 | nil=>simp
 | cons x l ih =>
  cases n with
  | zero=>simp
  | succ n =>
   simp only [List.take_succ_cons,List.mem_cons,forall_eq_or_imp] at h
   have:=ih h.2
   simp [h.1,this.1,this.2]
theorem whole_loop (s:ByteArray) (hs:s.size ≤ 4000) (d:Nat):∀ i:Int,0 ≤ i → i ≤ s.size → (s.size:Int) - i ≤ d → (∀ x ∈ (L s).take i.toNat,inHouse x = true) →
  ∃ r,Ev (fun k=>spec_l1Whole.l0 k s s (⟨#[]⟩:ByteArray) i) r ∧ IsAd r (readWhole (L s)):=by
 have hL:=L_length s
 have hend:∀ i:Int,i = s.size → (∀ x ∈ (L s).take i.toNat,inHouse x = true) → ∃ r,Ev (fun k=>spec_l1Whole.l0 k s s (⟨#[]⟩:ByteArray) i) r ∧ IsAd r (readWhole (L s)):=by
  intro i hi hall
  obtain ⟨m,hm,em,hms⟩:=small_ev (s:=s) (by omega)
  obtain ⟨r,hr,ha⟩:=way_ev (h:=m) (frm:=[]) (b:=false) (q:=(⟨#[]⟩:ByteArray)) (way:=(⟨#[]⟩:ByteArray)) (by omega) (Nat.zero_le _) (Nat.zero_le _)
  refine ⟨r,Ev.step (fun k=>?_) (Ev.bind0 (f:=fun n m=>(spec_l1Way.f n m ([]:List ByteArray) false (⟨#[]⟩:ByteArray) (⟨#[]⟩:ByteArray)).bind fun t=>some (t.1,t.2.1,t.2.2.1,t.2.2.2.1,t.2.2.2.2)) hm (Ev.bind hr (Ev.const rfl))),?_⟩
  ·rw [spec_l1Whole.l0,if_neg (by omega)]
  ·obtain ⟨t1,t2⟩:=takeWhile_at hall
   unfold readWhole
   rw [t1,t2,List.drop_of_length_le (by omega),List.take_of_length_le (by omega)]
   rw [em,L_empty] at ha
   simpa using ha
 induction d with
 | zero=>intro i h0 h1 hd hall;exact hend i (by omega) hall
 | succ d ih =>
  intro i h0 h1 hd hall
  by_cases hlt:i < (s.size:Int)
  rotate_left
  ·exact hend i (by omega) hall
  obtain ⟨x,t,hx⟩:=drop_lt (l:=L s) (i:=i.toNat) (by omega)
  have hbx:bt s i = x:=bt_get hx
  have w1:wrap64 (i + 1) = i + 1:=w64 (by omega) (by omega)
  obtain ⟨m,hm,em,hms⟩:=small_ev (s:=s.extract 0 i.toNat) (by rw [ByteArray.size_extract];omega)
  have hesz:(s.extract i.toNat s.size).size ≤ 4000:=by rw [ByteArray.size_extract];omega
  have hmz:m.size ≤ 10000000:=by rw [hms,ByteArray.size_extract];omega
  obtain ⟨r,hr,ha⟩:=way_ev (h:=m) (frm:=[]) (b:=false) (q:=(⟨#[]⟩:ByteArray)) (way:=s.extract i.toNat s.size) hmz (Nat.zero_le _) hesz
  obtain ⟨t1,t2⟩:=takeWhile_at hall
  have stop:inHouse x = false → IsAd r (readWhole (L s)):=by
   intro hin
   have k1:(L s).takeWhile inHouse = (L s).take i.toNat:=by rw [t1,hx,List.takeWhile_cons,hin];simp
   have k2:(L s).dropWhile inHouse = (L s).drop i.toNat:=by rw [t2,hx,List.dropWhile_cons,hin];simp
   unfold readWhole
   rw [k1,k2]
   rw [em,L_extract,L_extract,List.drop_zero,← hL,List.take_length] at ha
   exact ha
  by_cases c1:x = 47
  ·refine ⟨r,Ev.step (fun k=>?_) (Ev.bind0 (f:=fun n m=>(spec_l1Way.f n m ([]:List ByteArray) false (⟨#[]⟩:ByteArray) (s.extract i.toNat s.size)).bind fun t=>some (t.1,t.2.1,t.2.2.1,t.2.2.2.1,t.2.2.2.2)) hm (Ev.bind hr (Ev.const rfl))),stop (by rw [c1];rfl)⟩
   rw [spec_l1Whole.l0,if_pos hlt,if_pos h0,hbx,if_pos c1,if_pos h1]
  ·by_cases c2:x = 63
   ·refine ⟨r,Ev.step (fun k=>?_) (Ev.bind0 (f:=fun n m=>(spec_l1Way.f n m ([]:List ByteArray) false (⟨#[]⟩:ByteArray) (s.extract i.toNat s.size)).bind fun t=>some (t.1,t.2.1,t.2.2.1,t.2.2.2.1,t.2.2.2.2)) hm (Ev.bind hr (Ev.const rfl))),stop (by rw [c2];rfl)⟩
    rw [spec_l1Whole.l0,if_pos hlt,if_pos h0,hbx,if_neg c1,if_pos c2,if_pos h1]
   ·obtain ⟨r',hr',ha'⟩:=ih (i + 1) (by omega) (by omega) (by omega) (by
     intro y hy
     rw [show (i + 1).toNat = i.toNat + 1 by omega,List.take_succ_eq_append_getElem (by omega)] at hy
     rcases List.mem_append.mp hy with hy|hy
     ·exact hall y hy
     ·rw [List.mem_singleton] at hy
      rw [List.drop_eq_getElem_cons (by omega)] at hx
      injection hx with hx _
      rw [hy,hx]
      simp [inHouse,c1,c2])
    refine ⟨r',Ev.step (fun k=>?_) hr',ha'⟩
    rw [spec_l1Whole.l0,if_pos hlt,if_pos h0,hbx,if_neg c1,if_neg c2,w1]
theorem whole_ev {s:ByteArray} (hs:s.size ≤ 4000):∃ r,Ev (fun k=>spec_l1Whole.f k s) r ∧ IsAd r (readWhole (L s)) :=
 whole_loop s hs s.size 0 (by omega) (by omega) (by omega) (by simp)

theorem read_ev {s:ByteArray} (hs:s.size ≤ 2000000):∃ r,Ev (fun k=>spec_AddrRead.f k s) r ∧ IsAd r (AddrP.read (L s)):=by
 obtain ⟨c,hc,e1,e2,e3⟩:=CutF.cut_ev (s:=s) 35 (by omega)
 have hsz:=CutF.cut_size 35 e1 e2
 unfold spec_AddrRead.f AddrP.read
 rw [L_length,← e1]
 by_cases h60:(s.size:Int) > 60
 ·exact ⟨noAd,Ev.bind hc (Ev.pos h60 (Ev.const rfl)),by rw [if_neg (by omega)];rfl⟩
 rw [if_pos (by omega)]
 have hLc:=L_length c.1
 have hpre:(c.1.extract 0 2).toList = ([47,47]:List UInt8) ↔ (L c.1).take 2 = [47,47]:=by
  rw [toList_lit,L_extract,List.drop_zero];rfl
 by_cases h2:(c.1.size:Int) < 2
 ·refine ⟨noAd,Ev.bind hc (Ev.neg h60 (Ev.pos h2 (Ev.const rfl))),?_⟩
  have:readText (L c.1) = none:=by
   unfold readText
   split
   ·rename_i rest heq;rw [heq] at hLc;simp at hLc;omega
   ·rfl
  rw [this];rfl
 ·by_cases hp:(L c.1).take 2 = [47,47]
  ·obtain ⟨r,hr,ha⟩:=whole_ev (s:=c.1.extract 2 c.1.size) (by rw [ByteArray.size_extract];omega)
   refine ⟨r,Ev.bind hc (Ev.neg h60 (Ev.neg h2 (Ev.pos (by omega) (Ev.pos (by omega) (Ev.pos (hpre.mpr hp) (Ev.bind hr (Ev.const rfl))))))),?_⟩
   have e:L c.1 = 47 :: 47 :: (L c.1).drop 2:=by
    have:=List.take_append_drop 2 (L c.1)
    rw [hp] at this
    exact this.symm
   have e':readText (L c.1) = readWhole ((L c.1).drop 2):=by rw [e];rfl
   rw [e']
   rw [L_extract,← hLc,List.take_length] at ha
   exact ha
  ·refine ⟨noAd,Ev.bind hc (Ev.neg h60 (Ev.neg h2 (Ev.pos (by omega) (Ev.pos (by omega) (Ev.neg (fun h=>hp (hpre.mp h)) (Ev.const rfl)))))),?_⟩
   have:readText (L c.1) = none:=by
    unfold readText
    split
    ·rename_i rest heq;rw [heq] at hp;exact absurd rfl hp
    ·rfl
   rw [this];rfl

theorem addrText_ev {h:ByteArray} {l:List ByteArray} {b:Bool} {q:ByteArray} (hh:h.size ≤ 10000000) (hl:tot l ≤ 10000000) (hq:q.size ≤ 10000000) :
  ∃ r,Ev (fun k=>spec_AddrText.f k h l b q) r ∧ L r = if ok (adOf h l b q) then textT (adOf h l b q) else []:=by
 unfold spec_AddrText.f
 have O:=ok_ev (b:=b) hh hl hq
 cases hok:ok (adOf h l b q) with
 | true =>
  obtain ⟨r,hr,e⟩:=text_ev (b:=b) hh hl hq
  rw [hok] at O
  exact ⟨r,Ev.bind O (Ev.pos rfl (Ev.bind hr (Ev.const rfl))),by rw [if_pos rfl];exact e⟩
 | false =>
  rw [hok] at O
  exact ⟨_,Ev.bind O (Ev.neg Bool.false_ne_true (Ev.const rfl)),by rw [if_neg Bool.false_ne_true];rfl⟩
end Go.Proofs.YtochmlkladpfgaaDoor.AddrR

namespace Go.Proofs.YtochmlkladpfgaaDoor.AddrD
open Go hiding stepT
open Go.Proofs.YtochmlkladpfgaaDoor.EscP (escN)
open Go.RowKit Go.Proofs.YtochmlkladpfgaaDoor.P Go.Proofs.YtochmlkladpfgaaDoor.Lib Go.Proofs.YtochmlkladpfgaaDoor.CutP Go.Proofs.YtochmlkladpfgaaDoor.Draw Go.Proofs.YtochmlkladpfgaaDoor.AddrP Go.Proofs.YtochmlkladpfgaaDoor.AddrF Go.Proofs.YtochmlkladpfgaaDoor.AddrR Go.Proofs.YtochmlkladpfgaaDoorW.PrintWords Go.Proofs.YtochmlkladpfgaaDoorW.PrintLast
set_option linter.unusedVariables false
set_option linter.unusedSimpArgs false

theorem restS_tot (t:List ByteArray):(restS (t.map L)).length = tot t:=by
 induction t with
 | nil=>rfl
 | cons q t ih=>simp [restS,tot,L_length] at ih ⊢;omega
/-- An address that is ok is short. -/
theorem ok_short {h:ByteArray} {l:List ByteArray} {b:Bool} {q:ByteArray} (o:Ok (adOf h l b q)):h.size ≤ 60 ∧ tot l ≤ 100 ∧ q.size ≤ 60:=by
 have ht:=o.len
 have hj:tot l ≤ (joinS (l.map L)).length + 1:=by
  cases l with
  | nil=>exact Nat.zero_le _
  | cons p t =>
   rw [List.map_cons,joinS_rest,List.length_append,L_length,restS_tot]
   simp [tot];omega
 have hq:q.size ≤ 60:=by
  have hn:escN (L q) = some (L q):=o.nask
  unfold EscP.escN at hn
  split at hn
  ·rename_i h;rw [L_length] at h;exact h
  ·cases hn
 unfold textT pathT adOf at ht
 simp only [List.length_append,List.length_cons,L_length] at ht
 refine ⟨by omega,by omega,hq⟩

/-- Five values that were read are short. -/
theorem read_short {r:R5} {t:T} (h:IsAd r (AddrP.read t)):r.1.size ≤ 60 ∧ tot r.2.1 ≤ 100 ∧ r.2.2.2.1.size ≤ 60:=by
 cases hr:AddrP.read t with
 | none=>rw [hr] at h;have h:r = noAd:=h;subst h;exact ⟨Nat.zero_le _,Nat.zero_le _,Nat.zero_le _⟩
 | some a =>
  rw [hr] at h
  have ho:=read_ok hr
  rw [← h.2] at ho
  exact ok_short ho

theorem addr_loop {l:List Int} (hl:CodeOk l) (h:ByteArray) (hh:h.size ≤ 10) (d:Nat):∀ (n p:Int) (o:List ByteArray),n ≤ d → -10 ≤ n → 0 ≤ p → p + d ≤ 1000 → tot o + 100 * d ≤ 1000 →
  ∃ v p',Ev (fun k=>spec_l71Addr.l0 k n l p h o false (⟨#[]⟩:ByteArray)) (v,p') ∧ v.size ≤ 60 ∧ p ≤ p' ∧ p' ≤ p + d + 2:=by
 have hend:∀ (n p:Int) (o:List ByteArray),¬ n > 0 → 0 ≤ p → p ≤ 1000 → tot o ≤ 1000 →
   ∃ v p',Ev (fun k=>spec_l71Addr.l0 k n l p h o false (⟨#[]⟩:ByteArray)) (v,p') ∧ v.size ≤ 60 ∧ p ≤ p' ∧ p' ≤ p + 2:=by
  intro n p o hn hp hp2 ho
  obtain ⟨v,hv,h0,h1⟩:=pick_ev hl (p:=p) (n:=8) hp (by omega) (by omega) (by omega)
  have short:∀ (b:Bool) (q:ByteArray) (r:ByteArray),(L r = if ok (adOf h o b q) then textT (adOf h o b q) else []) → r.size ≤ 60:=by
   intro b q r e
   rw [← L_length,e]
   cases hok:ok (adOf h o b q) with
   | true=>rw [if_pos rfl];exact ((ok_iff _).mp hok).len
   | false=>rw [if_neg Bool.false_ne_true];exact Nat.zero_le _
  have step:∀ k,spec_l71Addr.l0 (k + 1) n l p h o false (⟨#[]⟩:ByteArray) = ((spec_l6Rd_pick.f k l p 8).bind fun bt336=>(if bt336.1 = 0 then ((spec_l6Rd_of.f k l bt336.2 (([(⟨#[]⟩:ByteArray),(⟨#[97]⟩:ByteArray),(⟨#[98,37,51,68]⟩:ByteArray)]:List ByteArray))).bind fun bt341=>((spec_AddrText.f k h o true bt341.1).bind fun t343=>(some (t343,bt341.2)))) else ((spec_AddrText.f k h o false (⟨#[]⟩:ByteArray)).bind fun t344=>(some (t344,bt336.2))))):=by
   intro k
   rw [spec_l71Addr.l0,if_neg hn]
  by_cases hz:v = 0
  ·obtain ⟨a,ha,hae⟩:=of_ev hl (p:=p + 1) (by omega) (by omega) (xs:=[(⟨#[]⟩:ByteArray),(⟨#[97]⟩:ByteArray),(⟨#[98,37,51,68]⟩:ByteArray)]) (by simp) (by simp)
   have hsa:a.size ≤ 30:=(by decide:∀ x ∈ _,ByteArray.size x ≤ 30) a ha
   obtain ⟨r,hr,e⟩:=addrText_ev (h:=h) (l:=o) (b:=true) (q:=a) (by omega) (by omega) (by omega)
   exact ⟨r,p + 1 + 1,Ev.step step (Ev.bind hv (Ev.pos hz (Ev.bind hae (Ev.bind hr (Ev.const rfl))))),short _ _ _ e,by omega,by omega⟩
  ·obtain ⟨r,hr,e⟩:=addrText_ev (h:=h) (l:=o) (b:=false) (q:=(⟨#[]⟩:ByteArray)) (by omega) (by omega) (Nat.zero_le _)
   exact ⟨r,p + 1,Ev.step step (Ev.bind hv (Ev.neg hz (Ev.bind hr (Ev.const rfl)))),short _ _ _ e,by omega,by omega⟩
 induction d with
 | zero =>
  intro n p o hn hn2 hp hp2 ho
  obtain ⟨v,p',h1,h2,h3,h4⟩:=hend n p o (by omega) hp (by omega) (by omega)
  exact ⟨v,p',h1,h2,h3,by omega⟩
 | succ d ih =>
  intro n p o hn hn2 hp hp2 ho
  by_cases hn1:n > 0
  rotate_left
  ·obtain ⟨v,p',h1,h2,h3,h4⟩:=hend n p o hn1 hp (by omega) (by omega)
   exact ⟨v,p',h1,h2,h3,by omega⟩
  have hlo:=len_tot o
  obtain ⟨a,ha,hae⟩:=of_ev hl (p:=p) hp (by omega) (xs:=[(⟨#[97]⟩:ByteArray),(⟨#[98]⟩:ByteArray),(⟨#[99]⟩:ByteArray),(⟨#[110,111,116,105,99,101]⟩:ByteArray)]) (by simp) (by simp)
  have hsa:a.size ≤ 30:=(by decide:∀ x ∈ _,ByteArray.size x ≤ 30) a ha
  have ht:tot (o ++ [a]) = tot o + (a.size + 1):=by rw [tot_append];simp [tot]
  obtain ⟨v,p',h1,h2,h3,h4⟩:=ih (n - 1) (p + 1) (o ++ [a]) (by omega) (by omega) (by omega) (by omega) (by omega)
  have w1:wrap64 (n - 1) = n - 1:=w64 (by omega) (by omega)
  have hlt:o.length < 8796093022208:=by omega
  refine ⟨v,p',Ev.step (fun k=>?_) (Ev.bind (f:=fun k bt=>if o.length < 8796093022208 then (spec_l71Addr.l0 k (n - 1) l bt.2 h (o ++ [bt.1]) false (⟨#[]⟩:ByteArray)) else none) hae (Ev.pos hlt h1)),h2,by omega,by omega⟩
  rw [spec_l71Addr.l0,if_pos hn1,w1]

theorem drawn_addr {l:List Int} (hl:CodeOk l) {p:Int} (hp:0 ≤ p) (hp2:p ≤ 900):∃ v p',Ev (fun k=>spec_l71Addr.f k l p) (v,p') ∧ v.size ≤ 60 ∧ p ≤ p' ∧ p' ≤ p + 10:=by
 obtain ⟨v,hv,h0,h1⟩:=pick_ev hl (p:=p) (n:=4) hp (by omega) (by omega) (by omega)
 obtain ⟨u,hu,g0,g1⟩:=pick_ev hl (p:=p + 1) (n:=3) (by omega) (by omega) (by omega) (by omega)
 have hsz:(rdOf ByteArray.empty [(⟨#[97,98]⟩:ByteArray),(⟨#[99,100]⟩:ByteArray),(⟨#[101]⟩:ByteArray),(⟨#[102,111,120]⟩:ByteArray)] v).size ≤ 10:=by
  have:v = 0 ∨ v = 1 ∨ v = 2 ∨ v = 3:=by omega
  rcases this with rfl|rfl|rfl|rfl <;> decide
 obtain ⟨r,p',hr,e1,e2,e3⟩:=addr_loop hl _ hsz 3 u (p + 1 + 1) [] (by omega) (by omega) (by omega) (by omega) (by simp [tot])
 refine ⟨r,p',?_,e1,by omega,by omega⟩
 unfold spec_l71Addr.f
 exact Ev.bind0 rfl (Ev.bind hv (Ev.pos h0 (Ev.pos (by simpa using h1) (Ev.bind hu hr))))

end Go.Proofs.YtochmlkladpfgaaDoor.AddrD
