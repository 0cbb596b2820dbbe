/- What holds of addresses that are read, and gone to: laws of lists of bytes. No program in sight. Condition: none. -/
-- Cut down by a program of this session (wip/tools/prune.py) to what its claim can name.
import Derived.Test.YtbnnamjaljohiaaDoorByteP
namespace Go.Proofs.YtbnnamjaljohiaaDoor.AddrP
open Go Go.RowKit Go.Proofs.YtbnnamjaljohiaaDoor.Lib Go.Proofs.YtbnnamjaljohiaaDoor.EscP Go.Proofs.YtbnnamjaljohiaaDoor.CutP Go.Proofs.YtbnnamjaljohiaaDoor.AddrP
set_option linter.unusedVariables false
set_option linter.unusedSimpArgs false

theorem read_strokes {raw:T} {a:Ad} (h:read raw = some a):∃ rest,raw = 47 :: 47 :: rest:=by
 unfold read at h
 split at h
 ·unfold readText at h
  split at h
  ·rename_i rest he
   rcases raw with _|⟨x,_|⟨y,r⟩⟩
   ·cases he
   ·simp only [cutT] at he;split at he <;> simp [cutT] at he
   ·simp only [cutT] at he
    split at he
    ·cases he
    ·split at he
     ·cases he
     ·simp only [List.cons.injEq] at he
      obtain ⟨rfl,rfl,_⟩:=he
      exact ⟨r,rfl⟩
  ·cases h
 ·cases h

theorem escAll_snoc {l r:List T} (h:escAll l = some r) (q:List T) (hq:∀ p ∈ q,escN p = some p):escAll (l ++ q) = some (r ++ q):=by
 rw [escAll_append,h,escAll_norm hq];rfl
theorem wayOf_idle {frm:List T} {w:T} {r:List T × Bool × T} {q:T} (hb:(63:Int) ∉ w) (hq:(63:Int) ∉ q) (hi:∀ p ∈ splitT 47 q,escN p = some p ∧ idleT p = true) (h:wayOf frm w = some r):wayOf frm (w ++ 47 :: q) = some r:=by
 have hb2:(63:Int) ∉ w ++ 47 :: q:=by
  simp only [List.mem_append,List.mem_cons,not_or];exact ⟨hb,by decide,hq⟩
 unfold wayOf at h ⊢
 rw [cutT_none hb] at h
 rw [cutT_none hb2,splitT_append]
 simp only [norm_nil] at h ⊢
 cases he:escAll (splitT 47 w) with
 | none=>rw [he] at h;cases h
 | some ps =>
  rw [he] at h
  rw [escAll_snoc he _ (fun p hp=>(hi p hp).1)]
  simp only at h ⊢
  rw [← h,← List.append_assoc,cleanT_append]
  have:∀ (l:List T) (o:List T),(∀ p ∈ l,idleT p = true) → l.foldl stepT o = o:=by
   intro l
   induction l with
   | nil=>intro o _;rfl
   | cons x l ih=>intro o hl;rw [List.foldl_cons,stepT_idle (hl x (by simp))];exact ih o (fun p hp=>hl p (by simp [hp]))
  rw [this _ _ (fun p hp=>(hi p hp).2)]
theorem readWay_idle {house:T} {frm:List T} {w q:T} {a:Ad} (hb:(63:Int) ∉ w) (hq:(63:Int) ∉ q) (hi:∀ p ∈ splitT 47 q,escN p = some p ∧ idleT p = true) (h:readWay house frm w = some a):readWay house frm (w ++ 47 :: q) = some a:=by
 unfold readWay at h ⊢
 cases hw:wayOf frm w with
 | none=>rw [hw] at h;cases h
 | some r=>rw [wayOf_idle hb hq hi hw];rw [hw] at h;exact h
theorem takeWhile_append_at {P:Int → Bool} (p q:T) {b:Int} (hb:P b = false):(p ++ b :: q).takeWhile P = p.takeWhile P ∧ (p ++ b :: q).dropWhile P = p.dropWhile P ++ b :: q:=by
 induction p with
 | nil=>simp [hb]
 | cons x p ih =>
  cases hx:P x with
  | true=>simp [hx,ih.1,ih.2]
  | false=>simp [hx]
theorem read_idle {raw q:T} {a:Ad} (hc:(35:Int) ∉ raw) (hb:(63:Int) ∉ raw) (hcq:(35:Int) ∉ q) (hq:(63:Int) ∉ q) (hi:∀ p ∈ splitT 47 q,escN p = some p ∧ idleT p = true) (hl:raw.length + 1 + q.length ≤ 60) (h:read raw = some a):read (raw ++ 47 :: q) = some a:=by
 obtain ⟨rest,rfl⟩:=read_strokes h
 have hc2:(35:Int) ∉ 47 :: 47 :: rest ++ 47 :: q:=by
  simp only [List.mem_append,List.mem_cons,not_or,List.cons_append] at hc ⊢
  exact ⟨by decide,by decide,hc.2.2,by decide,hcq⟩
 unfold read at h ⊢
 rw [cutT_none hc] at h
 rw [cutT_none hc2,if_pos (by simp at hl ⊢;omega)]
 split at h
 rotate_left
 ·cases h
 show readWhole (rest ++ 47 :: q) = some a
 have h':readWhole rest = some a:=h
 unfold readWhole at h' ⊢
 have e:=takeWhile_append_at (P:=inHouse) rest q (b:=47) rfl
 rw [e.1,e.2]
 refine readWay_idle (fun hm=>hb ?_) hq hi h'
 simp [List.dropWhile_subset _ hm]

end Go.Proofs.YtbnnamjaljohiaaDoor.AddrP
