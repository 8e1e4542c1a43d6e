import Derived.Test.YtpfdhihbecpbeaaGreatDoorKJ
import Derived.Test.YtpfdhihbecpbeaaGreatDoorKI
import Derived.Test.YtpfdhihbecpbeaaGreatDoorKA
import Derived.Lib.ItoaLen
import Derived.DataReads
import Derived.Test.YtpfdhihbecpbeaaGreatDoorRows
import Derived.Deep.Slices
import Derived.ChangeArms
import Derived.ChangeSame
import Derived.Test.YtpfdhihbecpbeaaGreatDoorKF
import Derived.Lib.LaidU8
import Derived.Stop.LaidErr
import Derived.Lib.LaidIn
import Derived.Lib.LaidTab
import Derived.Lay
import Derived.Deep.DeepWitnessRef
import Derived.Deep.DeepHandedRow
import Derived.Test.YtpfdhihbecpbeaaGreatDoorCards
import Derived.Test.YtpfdhihbecpbeaaGreatDoorTie
import Derived.WalkKit
import Derived.ProofKit
import Derived.OpenShut
import Derived.Carry
/- The law PrinterLines returns true at every argument, and leaves what was there as it was; on the condition that the argument is of bulk 1048576 at most, and that the variables which the program lays at its start hold what it lays there. -/
namespace Go.Proofs.YtpfdhihbecpbeaaGreatDoor.E
open Go Go.RowKit Go.Proofs.YtpfdhihbecpbeaaGreatDoorW.PrintWords Go.Proofs.YtpfdhihbecpbeaaGreatDoorW.PrintLast Go.Proofs.YtpfdhihbecpbeaaGreatDoorW.PrintMore
set_option linter.unusedVariables false
set_option linter.unusedSimpArgs false
set_option maxRecDepth 100000
set_option maxHeartbeats 4000000
/-! ### How long a printed text can grow -/
/-- functions of texts, each making it longer by so much at most -/
def RW : List (List UInt8 → List UInt8) → Nat → Prop
 | [], _ => True
 | f :: fs, w => ∃ a b, a + b + 2 ≤ w ∧ (∀ p, (f p).length ≤ p.length + a) ∧ RW fs b
theorem RW.two {fs : List (List UInt8 → List UInt8)} {w : Nat} (h : RW fs w) : ∃ a b, a + b ≤ w ∧ (∀ p, (fs.headD id p).length ≤ p.length + a) ∧ ∀ p, (fs.tail.headD id p).length ≤ p.length + b := by
 match fs, h with
 | [], _ => exact ⟨0, 0, by omega, fun p => by simp, fun p => by simp⟩
 | [f], ⟨a, b, h1, h2, _⟩ => exact ⟨a, 0, by omega, h2, fun p => by simp⟩
 | f :: g :: fs, ⟨a, b, h1, h2, c, d, h3, h4, _⟩ => exact ⟨a, c, by omega, h2, h4⟩
theorem RW.row : ∀ {fs : List (List UInt8 → List UInt8)} {w : Nat} (m : Bool) (p : List UInt8), RW fs w → (rowT fs m p).length ≤ p.length + w
 | [], w, m, p, _ => by show p.length ≤ _; omega
 | f :: fs, w, m, p, ⟨a, b, h1, h2, h3⟩ => by
  show (rowT fs true (f (if m then p ++ [44, 32] else p))).length ≤ _
  have h4 := RW.row (fs := fs) true (f (if m then p ++ [44, 32] else p)) h3
  have h5 := h2 (if m then p ++ [44, 32] else p)
  have h6 : (if m then p ++ [44, 32] else p).length ≤ p.length + 2 := by split <;> simp
  omega
theorem sg_len (o : Int) : (sgT o).length ≤ 2 := by
 unfold sgT
 rw [List.getD_eq_getElem?_getD]
 by_cases h : o.toNat < sgL.length
 ·rw [List.getElem?_eq_getElem h]
  have : ∀ x ∈ sgL, x.length ≤ 2 := by decide
  exact this _ (List.getElem_mem h)
 ·rw [List.getElem?_eq_none (by omega)]; decide
theorem ty_len (t : Int) : (tyT t).length ≤ 4 := by
 unfold tyT
 split; · decide
 split; · decide
 split; · decide
 split <;> decide
theorem toL_len (s : ByteArray) : (toL s).length = s.size := by unfold toL; exact Array.length_toList
theorem oper_len (f : List UInt8 → List UInt8) (a : Nat) (h : ∀ p, (f p).length ≤ p.length + a) (b : Bool) (p : List UInt8) : (operT f b p).length ≤ p.length + a + 2 := by
 unfold operT
 have h1 := h (p ++ [40])
 have h2 := h p
 cases b
 ·simp; omega
 ·simp at h1 ⊢; omega
mutual
/-- what an expression's text weighs -/
def wtE : Ex → Nat
 | .mk _ _ n s l _ _ _ => 20 + s.size + (Lib.itoa n).length + (fixT n).length + wtEs l
def wtEs : List Ex → Nat
 | [] => 0
 | e :: l => 2 + wtE e + wtEs l
end
theorem exprK_len (k o n : Int) (s : ByteArray) (args : List Ex) (fs : List (List UInt8 → List UInt8)) (w : Nat) (h : RW fs w) (p : List UInt8) : (exprK k o n s args fs p).length ≤ p.length + (20 + s.size + (Lib.itoa n).length + (fixT n).length + w) := by
 obtain ⟨a, b, hab, h1, h2⟩ := h.two
 have hs := toL_len s
 unfold exprK
 split; · simp only [List.length_append]; omega
 split; · simp only [List.length_append]; omega
 split
 ·have : (if n = 1 then ([116, 114, 117, 101] : List UInt8) else [102, 97, 108, 115, 101]).length ≤ 5 := by split <;> decide
  simp only [List.length_append]; omega
 split; · simp only [List.length_append, List.length_cons, List.length_nil]; omega
 split; · simp only [List.length_append]; omega
 split
 ·have := h1 (p ++ toL s ++ [91])
  simp only [List.length_append, List.length_cons, List.length_nil] at this ⊢; omega
 split
 ·have := RW.row (fs := fs) false (p ++ toL s ++ [40]) h
  simp only [List.length_append, List.length_cons, List.length_nil] at this ⊢; omega
 split
 ·have h3 := oper_len (fs.headD id) a h1 ((args.headD (.mk 0 0 0 ⟨#[]⟩ [] 0 0 0)).kind == 9) (p ++ sgT o)
  have h4 := sg_len o
  simp only [List.length_append] at h3; omega
 split
 ·have key : ∀ b1 b2, (operT (fs.tail.headD id) b1 (operT (fs.headD id) b2 p ++ [32] ++ sgT o ++ [32])).length ≤ p.length + (20 + s.size + (Lib.itoa n).length + (fixT n).length + w) := by
   intro b1 b2
   have h3 := oper_len (fs.headD id) a h1 b2 p
   have h4 := oper_len (fs.tail.headD id) b h2 b1 (operT (fs.headD id) b2 p ++ [32] ++ sgT o ++ [32])
   have h5 := sg_len o
   simp only [List.length_append, List.length_cons, List.length_nil] at h4
   omega
  exact key _ _
 ·omega
mutual
theorem expr_wt : ∀ (e : Ex) (p : List UInt8), (exprT e p).length ≤ p.length + wtE e
 | .mk k o n s l a t pl, p => by
  have h := exprs_wt l
  have h2 := exprK_len k o n s l (exprTs l) (wtEs l) h p
  have e1 : exprT (.mk k o n s l a t pl) p = if wideB p then p else exprK k o n s l (exprTs l) p := rfl
  have e2 : wtE (.mk k o n s l a t pl) = 20 + s.size + (Lib.itoa n).length + (fixT n).length + wtEs l := rfl
  rw [e1, e2]
  split
  ·omega
  ·exact h2
theorem exprs_wt : ∀ (l : List Ex), RW (exprTs l) (wtEs l)
 | [] => trivial
 | e :: l => ⟨wtE e, wtEs l, by show wtE e + wtEs l + 2 ≤ 2 + wtE e + wtEs l; omega, expr_wt e, exprs_wt l⟩
end
/-- the same of lines, at every depth up to one -/
def RL (lv : Nat) : List (Nat → List UInt8 → List UInt8) → Nat → Prop
 | [], _ => True
 | f :: fs, w => ∃ a b, a + b + (lv + 2) ≤ w ∧ (∀ lv' p, lv' ≤ lv → (f lv' p).length ≤ p.length + a) ∧ RL lv fs b
theorem RL.head {lv : Nat} {fs : List (Nat → List UInt8 → List UInt8)} {w : Nat} (h : RL lv fs w) (lv' : Nat) (p : List UInt8) (hl : lv' ≤ lv) : (fs.headD (fun _ p => p) lv' p).length ≤ p.length + w := by
 match fs, h with
 | [], _ => show p.length ≤ _; omega
 | f :: fs, ⟨a, b, h1, h2, _⟩ => have := h2 lv' p hl; show (f lv' p).length ≤ _; omega
theorem RL.lines : ∀ {lv : Nat} {fs : List (Nat → List UInt8 → List UInt8)} {w : Nat} (lv' : Nat) (p : List UInt8), lv' ≤ lv → RL lv fs w → (linesT lv' fs p).length ≤ p.length + w
 | lv, [], w, lv', p, _, _ => by show p.length ≤ _; omega
 | lv, f :: fs, w, lv', p, hl, ⟨a, b, h1, h2, h3⟩ => by
  have e1 : linesT lv' (f :: fs) p = if wideB p then p else linesT lv' fs (f lv' (p ++ tabsT lv') ++ [10]) := rfl
  rw [e1]
  split
  ·omega
  ·have h4 := RL.lines (fs := fs) lv' (f lv' (p ++ tabsT lv') ++ [10]) hl h3
   have h5 := h2 lv' (p ++ tabsT lv') hl
   have h6 : (tabsT lv').length = lv' := List.length_replicate
   simp only [List.length_append, List.length_cons, List.length_nil] at h4 h5
   omega
theorem RL.body {lv : Nat} {fs : List (Nat → List UInt8 → List UInt8)} {w : Nat} (h : RL (lv + 1) fs w) (lv' : Nat) (p : List UInt8) (hl : lv' ≤ lv) : (bodyT fs lv' p).length ≤ p.length + w + lv + 4 := by
 have h4 := RL.lines (fs := fs) (lv' + 1) (p ++ [32, 123, 10]) (by omega) h
 have h6 : (tabsT lv').length = lv' := List.length_replicate
 unfold bodyT
 simp only [List.length_append, List.length_cons, List.length_nil] at h4 ⊢
 omega
mutual
/-- what a statement's text weighs, so deep -/
def wtS : St → Nat → Nat
 | .mk _ s _ l b e _ _, lv => 40 + s.size + 2 * lv + wtEs l + wtSs b (lv + 1) + wtSs e (lv + 1)
def wtSs : List St → Nat → Nat
 | [], _ => 0
 | s :: l, lv => lv + 2 + wtS s lv + wtSs l lv
end
theorem stmtK_len (k : Int) (s : ByteArray) (t : Int) (es : List (List UInt8 → List UInt8)) (els : List St) (fb fl : List (Nat → List UInt8 → List UInt8)) (lv w wb wl : Nat) (h : RW es w) (hb : RL (lv + 1) fb wb) (hl : RL (lv + 1) fl wl) (lv' : Nat) (hlv : lv' ≤ lv) (p : List UInt8) :
  (stmtK k s t es els fb fl lv' p).length ≤ p.length + (40 + s.size + 2 * lv + w + wb + wl) := by
 obtain ⟨a, b, hab, h1, h2⟩ := h.two
 have hs := toL_len s
 have ht := ty_len t
 unfold stmtK
 split
 ·have := h1 (p ++ [108, 101, 116, 32] ++ toL s ++ [58, 32] ++ tyT t ++ [32, 61, 32])
  simp only [List.length_append, List.length_cons, List.length_nil] at this ⊢; omega
 split
 ·have := h1 (p ++ toL s ++ [32, 61, 32])
  simp only [List.length_append, List.length_cons, List.length_nil] at this ⊢; omega
 split
 ·have := h1 (p ++ toL s ++ [91])
  have := h2 (es.headD id (p ++ toL s ++ [91]) ++ [93, 32, 61, 32])
  simp only [List.length_append, List.length_cons, List.length_nil] at *; omega
 split
 ·have h3 := h1 (p ++ [105, 102, 32])
  have h4 := hb.body lv' (es.headD id (p ++ [105, 102, 32])) hlv
  dsimp only
  generalize bodyT fb lv' (es.headD id (p ++ [105, 102, 32])) = q at h4 ⊢
  simp only [List.length_append, List.length_cons, List.length_nil] at h3
  split
  ·have h5 := hl.head lv' (q ++ [32, 101, 108, 115, 101, 32]) (by omega)
   simp only [List.length_append, List.length_cons, List.length_nil] at h5
   omega
  split
  ·have h5 := hl.body lv' (q ++ [32, 101, 108, 115, 101]) hlv
   simp only [List.length_append, List.length_cons, List.length_nil] at h5
   omega
  ·omega
 split
 ·have h3 := h1 (p ++ [119, 104, 105, 108, 101, 32])
  have h4 := hb.body lv' (es.headD id (p ++ [119, 104, 105, 108, 101, 32])) hlv
  simp only [List.length_append, List.length_cons, List.length_nil] at h3
  omega
 split
 ·have h3 := h1 (p ++ [114, 101, 116, 117, 114, 110] ++ [32])
  simp only [List.length_append, List.length_cons, List.length_nil] at h3
  split
  ·simp only [List.length_append, List.length_cons, List.length_nil]; omega
  ·simp only [List.length_append, List.length_cons, List.length_nil]; omega
 split
 ·have h3 := h1 p
  simp only [List.length_append, List.length_cons, List.length_nil]; omega
 ·simp only [List.length_append, List.length_cons, List.length_nil]; omega
mutual
theorem stmt_wt : ∀ (s : St) (lv lv' : Nat) (p : List UInt8), lv' ≤ lv → (stmtT s lv' p).length ≤ p.length + wtS s lv
 | .mk k s t l b e a pl, lv, lv', p, hl => stmtK_len k s t (exprTs l) e (stmtTs b) (stmtTs e) lv (wtEs l) (wtSs b (lv + 1)) (wtSs e (lv + 1)) (exprs_wt l) (stmts_wt b (lv + 1)) (stmts_wt e (lv + 1)) lv' hl p
theorem stmts_wt : ∀ (l : List St) (lv : Nat), RL lv (stmtTs l) (wtSs l lv)
 | [], _ => trivial
 | s :: l, lv => ⟨wtS s lv, wtSs l lv, by show wtS s lv + wtSs l lv + (lv + 2) ≤ lv + 2 + wtS s lv + wtSs l lv; omega, fun lv' p h => stmt_wt s lv lv' p h, stmts_wt l lv⟩
end
/-- what a variable's text weighs -/
def wtV (v : Vr) : Nat := 40 + v.name.size + (Lib.itoa v.size).length + (Lib.itoa v.value).length + (fixT v.value).length
theorem var_wt (v : Vr) (p : List UInt8) : (varT v p).length ≤ p.length + wtV v := by
 have h1 := toL_len v.name
 have h2 := ty_len v.type
 unfold varT wtV
 have h3 : (if 0 < v.size then [91] ++ Lib.itoa v.size ++ [93, 32] else []).length ≤ 3 + (Lib.itoa v.size).length := by
  split
  ·simp only [List.length_append, List.length_cons, List.length_nil]; omega
  ·simp
 have h4 : (if v.value = 0 then [] else [32, 61, 32] ++ (if v.type = 1 then Lib.itoa v.value else if v.type = 2 then fixT v.value else [116, 114, 117, 101])).length ≤ 7 + (Lib.itoa v.value).length + (fixT v.value).length := by
  split
  ·simp
  ·split
   ·simp only [List.length_append, List.length_cons, List.length_nil]; omega
   split
   ·simp only [List.length_append, List.length_cons, List.length_nil]; omega
   ·simp only [List.length_append, List.length_cons, List.length_nil]; omega
 simp only [List.length_append, List.length_cons, List.length_nil] at *
 omega
def wtPs : List Pm → Nat
 | [] => 0
 | x :: l => 8 + x.name.size + wtPs l
theorem params_wt : ∀ (l : List Pm) (m : Bool) (p : List UInt8), (paramsT l m p).length ≤ p.length + wtPs l
 | [], m, p => by show p.length ≤ _; omega
 | x :: l, m, p => by
  have h1 := toL_len x.name
  have h2 := ty_len x.type
  have h3 := params_wt l true ((if m then p ++ [44, 32] else p) ++ toL x.name ++ [58, 32] ++ tyT x.type)
  have h6 : (if m then p ++ [44, 32] else p).length ≤ p.length + 2 := by split <;> simp
  show (paramsT l true ((if m then p ++ [44, 32] else p) ++ toL x.name ++ [58, 32] ++ tyT x.type)).length ≤ p.length + (8 + x.name.size + wtPs l)
  simp only [List.length_append, List.length_cons, List.length_nil] at h3
  omega
/-- what a function's text weighs -/
def wtF (f : Fc) : Nat := 40 + f.name.size + wtPs f.params + wtSs f.body 1
theorem func_wt (f : Fc) (p : List UInt8) : (funcT f p).length ≤ p.length + wtF f := by
 have h1 := toL_len f.name
 have h2 := ty_len f.type
 have h3 := params_wt f.params false (p ++ [102, 110, 32] ++ toL f.name ++ [40])
 unfold funcT wtF
 dsimp only
 have h5 : (paramsT f.params false (p ++ [102, 110, 32] ++ toL f.name ++ [40]) ++ [41]).length ≤ p.length + f.name.size + wtPs f.params + 6 := by
  simp only [List.length_append, List.length_cons, List.length_nil] at h3 ⊢
  omega
 generalize paramsT f.params false (p ++ [102, 110, 32] ++ toL f.name ++ [40]) ++ [41] = q at h5 ⊢
 have h4 := (stmts_wt f.body 1).body (lv := 0) 0 (if f.type = 0 then q else q ++ [58, 32] ++ tyT f.type) (Nat.le_refl 0)
 have h6 : (if f.type = 0 then q else q ++ [58, 32] ++ tyT f.type).length ≤ q.length + 6 := by
  split
  ·omega
  ·simp only [List.length_append, List.length_cons, List.length_nil]; omega
 simp only [List.length_append, List.length_cons, List.length_nil]
 omega
def sumN {α : Type} (f : α → Nat) : List α → Nat
 | [] => 0
 | x :: l => f x + sumN f l
theorem vars_wt : ∀ (l : List Vr) (p : List UInt8), (l.foldl (fun p v => varT v p) p).length ≤ p.length + sumN wtV l
 | [], p => by show p.length ≤ _; omega
 | v :: l, p => by
  have h1 := vars_wt l (varT v p)
  have h2 := var_wt v p
  show (l.foldl (fun p v => varT v p) (varT v p)).length ≤ p.length + (wtV v + sumN wtV l)
  omega
theorem funcs_wt : ∀ (l : List Fc) (p : List UInt8), (funcsT l p).length ≤ p.length + sumN wtF l
 | [], p => by show p.length ≤ _; omega
 | f :: l, p => by
  have h1 := funcs_wt l (funcT f p)
  have h2 := func_wt f p
  have e1 : funcsT (f :: l) p = if wideB p then p else funcsT l (funcT f p) := rfl
  have e2 : sumN wtF (f :: l) = wtF f + sumN wtF l := rfl
  rw [e1, e2]
  split
  ·omega
  ·omega
theorem mod_wt (m : Md) : (modT m).length ≤ sumN wtV m.vars + sumN wtF m.funcs := by
 have h1 := vars_wt m.vars []
 have h2 := funcs_wt m.funcs (m.vars.foldl (fun p v => varT v p) [])
 unfold modT
 simp only [List.length_nil] at h1
 omega
/-! numbers' texts -/
theorem frac_len : ∀ k u, (fracT k u).length ≤ k
 | 0, _ => by show ([] : List UInt8).length ≤ 0; simp
 | k + 1, u => by
  unfold fracT
  split
  ·simp
  ·have := frac_len k (u * 10 % 4294967296); simp only [List.length_cons]; omega
open Go.Proofs Go.Deep Go.ChangeShapes Go.WideShapes
/-! ### Trees, as they are handed in -/
theorem bulk_pos {H : Type} (d : DataW H) : 1 ≤ Rows.uptoBulk d := by
 cases d with
 | lit l => cases l <;> simp [Rows.uptoBulk]
 | nil => simp [Rows.uptoBulk]
 | ptr => simp [Rows.uptoBulk]
 | slice => simp [Rows.uptoBulk]
 | agg => simp [Rows.uptoBulk]
 | iface => simp [Rows.uptoBulk]
 | map => simp [Rows.uptoBulk]
 | held => simp [Rows.uptoBulk]
theorem bulk_all_mem {H : Type} : ∀ (l : List (DataW H)) (d : DataW H), d ∈ l → Rows.uptoBulk d ≤ Rows.uptoBulkAll l
 | [], d, h => by simp at h
 | e :: r, d, h => by
  rcases List.mem_cons.1 h with rfl | h
  ·simp [Rows.uptoBulkAll]
  ·have := bulk_all_mem r d h; simp [Rows.uptoBulkAll]; omega
/-- in 64 bits -/
def I64 (v : Int) : Prop := -9223372036854775808 ≤ v ∧ v ≤ 9223372036854775807
theorem wf_i64 {n : Int} (h : (Lit.int .i64 n).wf = true) : I64 n := by
 simp only [Lit.wf, IntKind.min, IntKind.max, IntKind.signed, IntKind.bits, Bool.and_eq_true, decide_eq_true_eq] at h
 unfold I64
 simpa using h
/-- what reads as a datum of so much at most is of this kind, and no greater than the datum's bulk -/
def OpB (N : Nat) {α : Type} (d : Kd α) (t : TypeId) (bd : Nat → α → Prop) : Prop :=
 ∀ (H : Type) (enc : TypeId × Value → H) (W : World) (fuel : Nat) (cs : List Value) (y : DataW H × List MemPlace), DataW.trod enc Tryz.prog W 0 (fun _ => true) true fuel t cs = some y → Rows.uptoBulk y.1 ≤ N → ∃ x, d.K W x cs ∧ bd (Rows.uptoBulk y.1) x
theorem opb_int {N : Nat} {t : TypeId} (ht : Tryz.prog.underlying t = some (.int .i64)) : OpB N (Kd.int .i64) t (fun n v => 1 ≤ n ∧ I64 v) := by
 intro H enc W fuel cs y h _
 obtain ⟨n, rfl, rfl, hw⟩ := DataW.trod_int ht h
 exact ⟨n, rfl, bulk_pos _, wf_i64 hw⟩
theorem opb_string {N : Nat} {t : TypeId} (ht : Tryz.prog.underlying t = some .string) : OpB N Kd.string t (fun n s => s.size + 1 ≤ n) := by
 intro H enc W fuel cs y h _
 obtain ⟨s, rfl, rfl, _⟩ := DataW.trod_string ht h
 exact ⟨s, rfl, by simp [Rows.uptoBulk]⟩
/-- a row's bulk is shared out to its elements -/
def RwB {α : Type} (bd : Nat → α → Prop) : Nat → List α → Prop
 | _, [] => True
 | n, x :: l => ∃ m k, 1 ≤ m ∧ m + k ≤ n ∧ bd m x ∧ RwB bd k l
theorem RwB.mono {α : Type} {bd : Nat → α → Prop} {l : List α} {n n' : Nat} (h : RwB bd n l) (hn : n ≤ n') : RwB bd n' l := by
 cases l with
 | nil => trivial
 | cons x l => obtain ⟨m, k, h1, h2, h3⟩ := h; exact ⟨m, k, h1, by omega, h3⟩
theorem RwB.length {α : Type} {bd : Nat → α → Prop} : ∀ {l : List α} {n : Nat}, RwB bd n l → l.length ≤ n
 | [], n, _ => Nat.zero_le _
 | x :: l, n, ⟨m, k, h1, h2, _, h3⟩ => by have := RwB.length h3; simp; omega
theorem RwB_of {H α : Type} {bd : Nat → α → Prop} : ∀ (ds : List (DataW H)) (l : List α), l.length = ds.length → (∀ (i : Nat) (d : DataW H) (x : α), ds[i]? = some d → l[i]? = some x → bd (Rows.uptoBulk d) x) → RwB bd (Rows.uptoBulkAll ds) l
 | _, [], _, _ => trivial
 | [], x :: l, h, _ => by simp at h
 | d :: ds, x :: l, h, hb => ⟨Rows.uptoBulk d, Rows.uptoBulkAll ds, bulk_pos d, by simp [Rows.uptoBulkAll], hb 0 d x rfl rfl, RwB_of ds l (by simpa using h) (fun i d x h1 h2 => hb (i + 1) d x h1 h2)⟩
theorem opb_slice {N : Nat} {α : Type} {d : Kd α} {t e : TypeId} {bd : Nat → α → Prop} (ht : Tryz.prog.underlying t = some (.slice e)) (hsz : Tryz.prog.cellsOf e = d.sz) (he : OpB N d e bd) :
  OpB (N + 1) (Kd.slice e d) t (fun n l => 1 ≤ n ∧ RwB bd (n - 1) l) := by
 intro H enc W fuel cs y h hN
 rcases open_slice ht h with ⟨rfl, rfl⟩ | ⟨a, len, cap, m, n, D, Pl, rfl, hb, hl, hm, hmm, rfl, hel⟩
 ·exact ⟨[], ⟨none, 0, rfl, by simp, Kd.C_nil _ _⟩, bulk_pos _, trivial⟩
 ·have hml : len ≤ m := by rw [hmm]; simp; exact hl
  have hbk : Rows.uptoBulk (DataW.slice ((List.range len).map D) ((List.range (m - len)).map fun j => D (len + j))) = Rows.uptoBulkAll ((List.range len).map D) + Rows.uptoBulkAll ((List.range (m - len)).map fun j => D (len + j)) + 1 := by simp [Rows.uptoBulk]
  rw [hbk] at hN
  have hx : ∀ i, i < len → ∃ x, ∃ cs', W.cells? 0 (a.add (i * d.sz)) d.sz = some cs' ∧ d.K W x cs' ∧ bd (Rows.uptoBulk (D i)) x := by
   intro i hi
   obtain ⟨cs', h1, h2⟩ := hel i (by omega)
   have h4 := bulk_all_mem ((List.range len).map D) (D i) (List.mem_map.2 ⟨i, List.mem_range.2 hi, rfl⟩)
   obtain ⟨x, hx1, hx2⟩ := he H enc W n cs' _ h2 (by show Rows.uptoBulk (D i) ≤ N; omega)
   rw [hsz] at h1
   exact ⟨x, cs', h1, hx1, hx2⟩
  have hml2 : maxLen ≤ 9223372036854775807 := by unfold maxLen; omega
  refine ⟨List.ofFn (fun i : Fin len => Classical.choose (hx i i.2)), ⟨some a, cap, by simp, by simp; exact hl, ?_⟩, ?_, ?_⟩
  ·refine ⟨rfl, by simp; omega, fun _ => ⟨a, rfl, fun j p hj => ?_⟩⟩
   have hjl : j < len := by
    have := (List.getElem?_eq_some_iff.1 hj).1
    simpa using this
   have hp : p = Classical.choose (hx j hjl) := by
    rw [List.getElem?_ofFn] at hj
    simp [hjl] at hj
    exact hj.symm
   obtain ⟨cs', h1, h2, h3⟩ := Classical.choose_spec (hx j hjl)
   rw [← hp] at h2
   obtain ⟨_, hlen, hc⟩ := World.cells?_some h1
   refine ⟨cs', hlen, h2, fun i u hu => ?_⟩
   have hi : i < d.sz := by rw [← hlen]; exact (List.getElem?_eq_some_iff.1 hu).1
   have := hc i hi
   rw [hu] at this
   rw [← this]
   rw [Go.Deep.add_add]
  ·exact bulk_pos _
  ·show RwB bd (Rows.uptoBulk (DataW.slice ((List.range len).map D) ((List.range (m - len)).map fun j => D (len + j))) - 1) _
   rw [hbk]
   refine RwB.mono (n := Rows.uptoBulkAll ((List.range len).map D)) (RwB_of _ _ (by simp) (fun i d x h1 h2 => ?_)) (by omega)
   have hil : i < len := by
    have := (List.getElem?_eq_some_iff.1 h1).1
    simpa using this
   have hd : d = D i := by
    rw [List.getElem?_map, List.getElem?_range hil] at h1
    simpa using h1.symm
   have hp : x = Classical.choose (hx i hil) := by
    rw [List.getElem?_ofFn] at h2
    simp [hil] at h2
    exact h2.symm
   rw [hd, hp]
   exact (Classical.choose_spec (Classical.choose_spec (hx i hil))).2.2
theorem itoa_i64 {n : Int} (h : I64 n) : (Lib.itoa n).length ≤ 21 := Lib.itoa_length_le n h.1 h.2
theorem fixT_i64 {n : Int} (h : I64 n) : (fixT n).length ≤ 62 := by
 unfold fixT
 have h1 : (if n < 0 then ([45] : List UInt8) else []).length ≤ 1 := by split <;> decide
 have h2 : (Lib.decDigits (n.natAbs / 4294967296)).length ≤ 20 := by
  rw [Lib.decDigits_length]
  refine Lib.nDigits_le20 _ ?_
  have := h.1
  have := h.2
  omega
 have h3 := frac_len 40 (n.natAbs % 4294967296)
 simp only [List.length_append, List.length_cons, List.length_nil]
 omega
def exB (n : Nat) (e : Ex) : Prop := smE e ∧ lnE e ∧ wtE e + 2 ≤ n * 200
theorem exs_B : ∀ {l : List Ex} {n : Nat}, RwB exB n l → smEs l ∧ lnEs l ∧ wtEs l ≤ n * 200
 | [], n, _ => ⟨trivial, trivial, Nat.zero_le _⟩
 | e :: l, n, ⟨m, k, h1, h2, ⟨h3, h4, h5⟩, h6⟩ => by
  obtain ⟨h7, h8, h9⟩ := exs_B h6
  refine ⟨⟨h3, h7⟩, ⟨h4, h8⟩, ?_⟩
  show 2 + wtE e + wtEs l ≤ n * 200
  omega
def stB (n : Nat) (s : St) : Prop := smS s ∧ lnS s ∧ ∀ lv D, lv + n ≤ D → wtS s lv + lv + 2 ≤ n * (400 + 4 * D)
theorem sts_B : ∀ {l : List St} {n : Nat}, RwB stB n l → smSs l ∧ lnSs l ∧ ∀ lv D, lv + n ≤ D → wtSs l lv ≤ n * (400 + 4 * D)
 | [], n, _ => ⟨trivial, trivial, fun _ _ _ => Nat.zero_le _⟩
 | e :: l, n, ⟨m, k, h1, h2, ⟨h3, h4, h5⟩, h6⟩ => by
  obtain ⟨h7, h8, h9⟩ := sts_B h6
  refine ⟨⟨h3, h7⟩, ⟨h4, h8⟩, fun lv D hD => ?_⟩
  show lv + 2 + wtS e lv + wtSs l lv ≤ n * (400 + 4 * D)
  have e1 := h5 lv D (by omega)
  have e2 := h9 lv D (by omega)
  have e5 : (m + k) * (400 + 4 * D) ≤ n * (400 + 4 * D) := Nat.mul_le_mul_right _ h2
  rw [Nat.add_mul] at e5
  omega
/-! ### Trees, opened -/
theorem kEx_mkK {w : World} (k o n : Int) (s : ByteArray) {l : List Ex} (a t p : Int) {A : Option Addr} {c : Nat} (hl : l.length ≤ c) (h : kEx.C w A l.length l) : kEx.K w (.mk k o n s l a t p) [.int .i64 k, .int .i64 o, .int .i64 n, .string s, .slice A l.length c, .int .i64 a, .int .i64 t, .int .i64 p] := by
 obtain ⟨m, hm⟩ := Kd.fix_C_back mono_fEx h
 exact ⟨m + 1, [.int .i64 k], _, rfl, rfl, [.int .i64 o], _, rfl, rfl, [.int .i64 n], _, rfl, rfl, [.string s], _, rfl, rfl, [.slice A l.length c], _, rfl, ⟨A, c, rfl, hl, hm⟩, [.int .i64 a], _, rfl, rfl, [.int .i64 t], [.int .i64 p], rfl, rfl, rfl⟩
theorem kSt_mkK {w : World} (k : Int) (s : ByteArray) (t : Int) {l : List Ex} {b e : List St} (a p : Int) {A A1 A2 : Option Addr} {c c1 c2 : Nat} (hl : l.length ≤ c) (h : kEx.C w A l.length l) (hl1 : b.length ≤ c1) (h1 : kSt.C w A1 b.length b) (hl2 : e.length ≤ c2) (h2 : kSt.C w A2 e.length e) :
  kSt.K w (.mk k s t l b e a p) [.int .i64 k, .string s, .int .i64 t, .slice A l.length c, .slice A1 b.length c1, .slice A2 e.length c2, .int .i64 a, .int .i64 p] := by
 obtain ⟨m1, hm1⟩ := Kd.fix_C_back mono_fSt h1
 obtain ⟨m2, hm2⟩ := Kd.fix_C_back mono_fSt h2
 have g1 := Kd.upto_C_le mono_fSt (Kd.upto_sz (fun _ => rfl)) (Nat.le_max_left m1 m2) hm1
 have g2 := Kd.upto_C_le mono_fSt (Kd.upto_sz (fun _ => rfl)) (Nat.le_max_right m1 m2) hm2
 exact ⟨max m1 m2 + 1, [.int .i64 k], _, rfl, rfl, [.string s], _, rfl, rfl, [.int .i64 t], _, rfl, rfl, [.slice A l.length c], _, rfl, ⟨A, c, rfl, hl, h⟩, [.slice A1 b.length c1], _, rfl, ⟨A1, c1, rfl, hl1, g1⟩, [.slice A2 e.length c2], _, rfl, ⟨A2, c2, rfl, hl2, g2⟩, [.int .i64 a], [.int .i64 p], rfl, rfl, rfl⟩
theorem OpB.mono {N N' : Nat} {α : Type} {d : Kd α} {t : TypeId} {bd : Nat → α → Prop} (h : OpB N d t bd) (hn : N' ≤ N) : OpB N' d t bd := fun H enc W fuel cs y h1 h2 => h H enc W fuel cs y h1 (by omega)
theorem sz_int : Tryz.prog.cellsOf 3 = Kd.sz (Kd.int .i64) := by kernel_rfl
theorem sz_ex : Tryz.prog.cellsOf 86 = Kd.sz kEx := by kernel_rfl
theorem sz_st : Tryz.prog.cellsOf 67 = Kd.sz kSt := by kernel_rfl
theorem sz_vr : Tryz.prog.cellsOf 40 = Kd.sz kVr := by kernel_rfl
theorem sz_pm : Tryz.prog.cellsOf 49 = Kd.sz kPm := by kernel_rfl
theorem sz_fc : Tryz.prog.cellsOf 46 = Kd.sz kFc := by kernel_rfl
theorem c1_int : Tryz.prog.cellsOf 3 = 1 := by kernel_rfl
theorem c1_string : Tryz.prog.cellsOf 9 = 1 := by kernel_rfl
theorem c1_Exprs : Tryz.prog.cellsOf 65 = 1 := by kernel_rfl
theorem c1_Stmts : Tryz.prog.cellsOf 43 = 1 := by kernel_rfl
theorem c1_Params : Tryz.prog.cellsOf 42 = 1 := by kernel_rfl
theorem c1_ints : Tryz.prog.cellsOf 44 = 1 := by kernel_rfl
theorem c1_Vars : Tryz.prog.cellsOf 22 = 1 := by kernel_rfl
theorem c1_Funcs : Tryz.prog.cellsOf 23 = 1 := by kernel_rfl
theorem opb_ex : ∀ N, N ≤ 1000000000 → OpB N kEx 86 exB
 | 0, _ => fun H enc W fuel cs y h hN => absurd hN (by have := bulk_pos y.1; omega)
 | N + 1, hM => by
  have ih := opb_ex N (by omega)
  intro H enc W fuel cs y h hN
  have hu : Tryz.prog.underlying 86 = some _ := Tryz.underlying86
  obtain ⟨xs, n, _, rfl, hl, hlen, hf⟩ := DataW.trod_struct hu h
  match xs, hlen with
  | [y0, y1, y2, y3, y4, y5, y6, y7], _ =>
   have hb : Rows.uptoBulk (DataW.agg (([y0, y1, y2, y3, y4, y5, y6, y7] : List (DataW H × List MemPlace)).map (·.1))) = Rows.uptoBulk y0.1 + (Rows.uptoBulk y1.1 + (Rows.uptoBulk y2.1 + (Rows.uptoBulk y3.1 + (Rows.uptoBulk y4.1 + (Rows.uptoBulk y5.1 + (Rows.uptoBulk y6.1 + (Rows.uptoBulk y7.1 + (0)))))))) + 1 := by simp [Rows.uptoBulk, Rows.uptoBulkAll]
   replace hN : Rows.uptoBulk (DataW.agg (([y0, y1, y2, y3, y4, y5, y6, y7] : List (DataW H × List MemPlace)).map (·.1))) ≤ N + 1 := hN
   rw [hb] at hN
   have p0 := bulk_pos y0.1
   have h0 := hf 0 _ rfl
   have p1 := bulk_pos y1.1
   have h1 := hf 1 _ rfl
   have p2 := bulk_pos y2.1
   have h2 := hf 2 _ rfl
   have p3 := bulk_pos y3.1
   have h3 := hf 3 _ rfl
   have p4 := bulk_pos y4.1
   have h4 := hf 4 _ rfl
   have p5 := bulk_pos y5.1
   have h5 := hf 5 _ rfl
   have p6 := bulk_pos y6.1
   have h6 := hf 6 _ rfl
   have p7 := bulk_pos y7.1
   have h7 := hf 7 _ rfl
   refine Exists.imp (fun x hx => ⟨hx.1, hb.symm ▸ hx.2⟩) (?_ : ∃ x, (kEx).K W x cs ∧ exB (Rows.uptoBulk y0.1 + (Rows.uptoBulk y1.1 + (Rows.uptoBulk y2.1 + (Rows.uptoBulk y3.1 + (Rows.uptoBulk y4.1 + (Rows.uptoBulk y5.1 + (Rows.uptoBulk y6.1 + (Rows.uptoBulk y7.1 + (0)))))))) + 1) x)
   obtain ⟨k, k0, b0⟩ := opb_int (N := N) Tryz.underlying3 H enc W n _ _ (h0.trans rfl) (by omega)
   obtain ⟨o, k1, b1⟩ := opb_int (N := N) Tryz.underlying3 H enc W n _ _ (h1.trans rfl) (by omega)
   obtain ⟨nn, k2, b2⟩ := opb_int (N := N) Tryz.underlying3 H enc W n _ _ (h2.trans rfl) (by omega)
   obtain ⟨s, k3, b3⟩ := opb_string (N := N) Tryz.underlying9 H enc W n _ _ (h3.trans rfl) (by omega)
   obtain ⟨l, k4, b4⟩ := opb_slice (N := N) Tryz.underlying65 sz_ex (ih) H enc W n _ _ (h4.trans rfl) (by omega)
   obtain ⟨A4, c4, e4, l4, g4⟩ := k4
   obtain ⟨a, k5, b5⟩ := opb_int (N := N) Tryz.underlying3 H enc W n _ _ (h5.trans rfl) (by omega)
   obtain ⟨t, k6, b6⟩ := opb_int (N := N) Tryz.underlying3 H enc W n _ _ (h6.trans rfl) (by omega)
   obtain ⟨p, k7, b7⟩ := opb_int (N := N) Tryz.underlying3 H enc W n _ _ (h7.trans rfl) (by omega)
   have e0 : (cs.drop 0).take (Tryz.prog.cellsOf 3) = [.int .i64 k] := k0
   rw [c1_int] at e0
   have e1 : (cs.drop 1).take (Tryz.prog.cellsOf 3) = [.int .i64 o] := k1
   rw [c1_int] at e1
   have e2 : (cs.drop 2).take (Tryz.prog.cellsOf 3) = [.int .i64 nn] := k2
   rw [c1_int] at e2
   have e3 : (cs.drop 3).take (Tryz.prog.cellsOf 9) = [.string s] := k3
   rw [c1_string] at e3
   have e4 : (cs.drop 4).take (Tryz.prog.cellsOf 65) = [.slice A4 l.length c4] := e4
   rw [c1_Exprs] at e4
   have e5 : (cs.drop 5).take (Tryz.prog.cellsOf 3) = [.int .i64 a] := k5
   rw [c1_int] at e5
   have e6 : (cs.drop 6).take (Tryz.prog.cellsOf 3) = [.int .i64 t] := k6
   rw [c1_int] at e6
   have e7 : (cs.drop 7).take (Tryz.prog.cellsOf 3) = [.int .i64 p] := k7
   rw [c1_int] at e7
   have hc : Tryz.prog.cellsOf 86 = 8 := by kernel_rfl
   rw [hc] at hl
   match cs, hl with
   | [u0, u1, u2, u3, u4, u5, u6, u7], _ =>
    simp at e0 e1 e2 e3 e4 e5 e6 e7
    subst e0 e1 e2 e3 e4 e5 e6 e7
    refine ⟨.mk k o nn s l a t p, kEx_mkK k o nn s a t p l4 g4, ?_⟩
    obtain ⟨h1, h2, h3⟩ := exs_B b4.2
    have h4 := RwB.length b4.2
    have h5 := itoa_i64 b2.2
    have h6 := fixT_i64 b2.2
    have h7 := b2.2.2
    refine ⟨⟨by omega, h7, h1⟩, ⟨by omega, h2⟩, ?_⟩
    show 20 + s.size + (Lib.itoa nn).length + (fixT nn).length + wtEs l + 2 ≤ _
    omega
theorem opb_st : ∀ N, N ≤ 1000000000 → OpB N kSt 67 stB
 | 0, _ => fun H enc W fuel cs y h hN => absurd hN (by have := bulk_pos y.1; omega)
 | N + 1, hM => by
  have ih := opb_st N (by omega)
  intro H enc W fuel cs y h hN
  have hu : Tryz.prog.underlying 67 = some _ := Tryz.underlying67
  obtain ⟨xs, n, _, rfl, hl, hlen, hf⟩ := DataW.trod_struct hu h
  match xs, hlen with
  | [y0, y1, y2, y3, y4, y5, y6, y7], _ =>
   have hb : Rows.uptoBulk (DataW.agg (([y0, y1, y2, y3, y4, y5, y6, y7] : List (DataW H × List MemPlace)).map (·.1))) = Rows.uptoBulk y0.1 + (Rows.uptoBulk y1.1 + (Rows.uptoBulk y2.1 + (Rows.uptoBulk y3.1 + (Rows.uptoBulk y4.1 + (Rows.uptoBulk y5.1 + (Rows.uptoBulk y6.1 + (Rows.uptoBulk y7.1 + (0)))))))) + 1 := by simp [Rows.uptoBulk, Rows.uptoBulkAll]
   replace hN : Rows.uptoBulk (DataW.agg (([y0, y1, y2, y3, y4, y5, y6, y7] : List (DataW H × List MemPlace)).map (·.1))) ≤ N + 1 := hN
   rw [hb] at hN
   have p0 := bulk_pos y0.1
   have h0 := hf 0 _ rfl
   have p1 := bulk_pos y1.1
   have h1 := hf 1 _ rfl
   have p2 := bulk_pos y2.1
   have h2 := hf 2 _ rfl
   have p3 := bulk_pos y3.1
   have h3 := hf 3 _ rfl
   have p4 := bulk_pos y4.1
   have h4 := hf 4 _ rfl
   have p5 := bulk_pos y5.1
   have h5 := hf 5 _ rfl
   have p6 := bulk_pos y6.1
   have h6 := hf 6 _ rfl
   have p7 := bulk_pos y7.1
   have h7 := hf 7 _ rfl
   refine Exists.imp (fun x hx => ⟨hx.1, hb.symm ▸ hx.2⟩) (?_ : ∃ x, (kSt).K W x cs ∧ stB (Rows.uptoBulk y0.1 + (Rows.uptoBulk y1.1 + (Rows.uptoBulk y2.1 + (Rows.uptoBulk y3.1 + (Rows.uptoBulk y4.1 + (Rows.uptoBulk y5.1 + (Rows.uptoBulk y6.1 + (Rows.uptoBulk y7.1 + (0)))))))) + 1) x)
   obtain ⟨k, k0, b0⟩ := opb_int (N := N) Tryz.underlying3 H enc W n _ _ (h0.trans rfl) (by omega)
   obtain ⟨s, k1, b1⟩ := opb_string (N := N) Tryz.underlying9 H enc W n _ _ (h1.trans rfl) (by omega)
   obtain ⟨t, k2, b2⟩ := opb_int (N := N) Tryz.underlying3 H enc W n _ _ (h2.trans rfl) (by omega)
   obtain ⟨l, k3, b3⟩ := opb_slice (N := N) Tryz.underlying65 sz_ex (opb_ex N (by omega)) H enc W n _ _ (h3.trans rfl) (by omega)
   obtain ⟨A3, c3, e3, l3, g3⟩ := k3
   obtain ⟨b, k4, b4⟩ := opb_slice (N := N) Tryz.underlying43 sz_st (ih) H enc W n _ _ (h4.trans rfl) (by omega)
   obtain ⟨A4, c4, e4, l4, g4⟩ := k4
   obtain ⟨e, k5, b5⟩ := opb_slice (N := N) Tryz.underlying43 sz_st (ih) H enc W n _ _ (h5.trans rfl) (by omega)
   obtain ⟨A5, c5, e5, l5, g5⟩ := k5
   obtain ⟨a, k6, b6⟩ := opb_int (N := N) Tryz.underlying3 H enc W n _ _ (h6.trans rfl) (by omega)
   obtain ⟨p, k7, b7⟩ := opb_int (N := N) Tryz.underlying3 H enc W n _ _ (h7.trans rfl) (by omega)
   have e0 : (cs.drop 0).take (Tryz.prog.cellsOf 3) = [.int .i64 k] := k0
   rw [c1_int] at e0
   have e1 : (cs.drop 1).take (Tryz.prog.cellsOf 9) = [.string s] := k1
   rw [c1_string] at e1
   have e2 : (cs.drop 2).take (Tryz.prog.cellsOf 3) = [.int .i64 t] := k2
   rw [c1_int] at e2
   have e3 : (cs.drop 3).take (Tryz.prog.cellsOf 65) = [.slice A3 l.length c3] := e3
   rw [c1_Exprs] at e3
   have e4 : (cs.drop 4).take (Tryz.prog.cellsOf 43) = [.slice A4 b.length c4] := e4
   rw [c1_Stmts] at e4
   have e5 : (cs.drop 5).take (Tryz.prog.cellsOf 43) = [.slice A5 e.length c5] := e5
   rw [c1_Stmts] at e5
   have e6 : (cs.drop 6).take (Tryz.prog.cellsOf 3) = [.int .i64 a] := k6
   rw [c1_int] at e6
   have e7 : (cs.drop 7).take (Tryz.prog.cellsOf 3) = [.int .i64 p] := k7
   rw [c1_int] at e7
   have hc : Tryz.prog.cellsOf 67 = 8 := by kernel_rfl
   rw [hc] at hl
   match cs, hl with
   | [u0, u1, u2, u3, u4, u5, u6, u7], _ =>
    simp at e0 e1 e2 e3 e4 e5 e6 e7
    subst e0 e1 e2 e3 e4 e5 e6 e7
    refine ⟨.mk k s t l b e a p, kSt_mkK k s t a p l3 g3 l4 g4 l5 g5, ?_⟩
    obtain ⟨h1, h2, h3⟩ := exs_B b3.2
    obtain ⟨h4, h5, h6⟩ := sts_B b4.2
    obtain ⟨h7, h8, h9⟩ := sts_B b5.2
    have q3 := RwB.length b3.2
    have q4 := RwB.length b4.2
    have q5 := RwB.length b5.2
    refine ⟨⟨by omega, h1, h4, h7⟩, ⟨⟨by omega, h2⟩, ⟨by omega, h5⟩, ⟨by omega, h8⟩⟩, fun lv D hD => ?_⟩
    have r1 := h6 (lv + 1) D (by omega)
    have r2 := h9 (lv + 1) D (by omega)
    show 40 + s.size + 2 * lv + wtEs l + wtSs b (lv + 1) + wtSs e (lv + 1) + lv + 2 ≤ _
    refine Nat.le_trans ?_ (Nat.mul_le_mul_right (400 + 4 * D) (show 8 + s.size + (Rows.uptoBulk y3.1 - 1) + (Rows.uptoBulk y4.1 - 1) + (Rows.uptoBulk y5.1 - 1) ≤ _ by omega))
    simp only [Nat.add_mul]
    have x1 : s.size ≤ s.size * (400 + 4 * D) := Nat.le_mul_of_pos_right _ (by omega)
    have x2 : (Rows.uptoBulk y3.1 - 1) * 200 ≤ (Rows.uptoBulk y3.1 - 1) * (400 + 4 * D) := Nat.mul_le_mul_left _ (by omega)
    omega
def vrB (n : Nat) (v : Vr) : Prop := I64 v.size ∧ I64 v.value ∧ v.name.size ≤ 1000000000 ∧ wtV v ≤ n * 200
def pmB (n : Nat) (v : Pm) : Prop := v.name.size ≤ 1000000000 ∧ 8 + v.name.size ≤ n * 200
theorem pms_B : ∀ {l : List Pm} {n : Nat}, RwB pmB n l → (∀ p ∈ l, p.name.size ≤ 1000000000) ∧ wtPs l ≤ n * 200
 | [], n, _ => ⟨by simp, Nat.zero_le _⟩
 | e :: l, n, ⟨m, k, h1, h2, ⟨h3, h4⟩, h6⟩ => by
  obtain ⟨h7, h8⟩ := pms_B h6
  refine ⟨fun p hp => ?_, ?_⟩
  ·rcases List.mem_cons.1 hp with rfl | hp
   ·exact h3
   ·exact h7 p hp
  ·show 8 + e.name.size + wtPs l ≤ n * 200
   omega
def fcB (n : Nat) (f : Fc) : Prop := (f.name.size ≤ 1000000000 ∧ ∀ p ∈ f.params, p.name.size ≤ 1000000000) ∧ (f.params.length ≤ 1000000000 ∧ f.body.length ≤ 1000000000) ∧ smSs f.body ∧ lnSs f.body ∧ wtF f ≤ n * (408 + 4 * n)
theorem opb_vr (N : Nat) (hM : N + 1 ≤ 1000000000) : OpB (N + 1) kVr 40 vrB := by
 intro H enc W fuel cs y h hN
 have hu : Tryz.prog.underlying 40 = some _ := Tryz.underlying40
 obtain ⟨xs, n, _, rfl, hl, hlen, hf⟩ := DataW.trod_struct hu h
 match xs, hlen with
 | [y0, y1, y2, y3, y4], _ =>
  have hb : Rows.uptoBulk (DataW.agg (([y0, y1, y2, y3, y4] : List (DataW H × List MemPlace)).map (·.1))) = Rows.uptoBulk y0.1 + (Rows.uptoBulk y1.1 + (Rows.uptoBulk y2.1 + (Rows.uptoBulk y3.1 + (Rows.uptoBulk y4.1 + (0))))) + 1 := by simp [Rows.uptoBulk, Rows.uptoBulkAll]
  replace hN : Rows.uptoBulk (DataW.agg (([y0, y1, y2, y3, y4] : List (DataW H × List MemPlace)).map (·.1))) ≤ N + 1 := hN
  rw [hb] at hN
  have p0 := bulk_pos y0.1
  have h0 := hf 0 _ rfl
  have p1 := bulk_pos y1.1
  have h1 := hf 1 _ rfl
  have p2 := bulk_pos y2.1
  have h2 := hf 2 _ rfl
  have p3 := bulk_pos y3.1
  have h3 := hf 3 _ rfl
  have p4 := bulk_pos y4.1
  have h4 := hf 4 _ rfl
  refine Exists.imp (fun x hx => ⟨hx.1, hb.symm ▸ hx.2⟩) (?_ : ∃ x, (kVr).K W x cs ∧ vrB (Rows.uptoBulk y0.1 + (Rows.uptoBulk y1.1 + (Rows.uptoBulk y2.1 + (Rows.uptoBulk y3.1 + (Rows.uptoBulk y4.1 + (0))))) + 1) x)
  obtain ⟨s, k0, b0⟩ := opb_string (N := N) Tryz.underlying9 H enc W n _ _ (h0.trans rfl) (by omega)
  obtain ⟨t, k1, b1⟩ := opb_int (N := N) Tryz.underlying3 H enc W n _ _ (h1.trans rfl) (by omega)
  obtain ⟨z, k2, b2⟩ := opb_int (N := N) Tryz.underlying3 H enc W n _ _ (h2.trans rfl) (by omega)
  obtain ⟨v, k3, b3⟩ := opb_int (N := N) Tryz.underlying3 H enc W n _ _ (h3.trans rfl) (by omega)
  obtain ⟨a, k4, b4⟩ := opb_int (N := N) Tryz.underlying3 H enc W n _ _ (h4.trans rfl) (by omega)
  have e0 : (cs.drop 0).take (Tryz.prog.cellsOf 9) = [.string s] := k0
  rw [c1_string] at e0
  have e1 : (cs.drop 1).take (Tryz.prog.cellsOf 3) = [.int .i64 t] := k1
  rw [c1_int] at e1
  have e2 : (cs.drop 2).take (Tryz.prog.cellsOf 3) = [.int .i64 z] := k2
  rw [c1_int] at e2
  have e3 : (cs.drop 3).take (Tryz.prog.cellsOf 3) = [.int .i64 v] := k3
  rw [c1_int] at e3
  have e4 : (cs.drop 4).take (Tryz.prog.cellsOf 3) = [.int .i64 a] := k4
  rw [c1_int] at e4
  have hc : Tryz.prog.cellsOf 40 = 5 := by kernel_rfl
  rw [hc] at hl
  match cs, hl with
  | [u0, u1, u2, u3, u4], _ =>
   simp at e0 e1 e2 e3 e4
   subst e0 e1 e2 e3 e4
   refine ⟨⟨s, t, z, v, a⟩, ⟨[.string s], _, rfl, rfl, [.int .i64 t], _, rfl, rfl, [.int .i64 z], _, rfl, rfl, [.int .i64 v], [.int .i64 a], rfl, rfl, rfl⟩, ?_⟩
   have h4 := itoa_i64 b2.2
   have h5 := itoa_i64 b3.2
   have h6 := fixT_i64 b3.2
   refine ⟨b2.2, b3.2, by show s.size ≤ _; omega, ?_⟩
   show 40 + s.size + (Lib.itoa z).length + (Lib.itoa v).length + (fixT v).length ≤ _
   omega
theorem opb_pm (N : Nat) (hM : N + 1 ≤ 1000000000) : OpB (N + 1) kPm 49 pmB := by
 intro H enc W fuel cs y h hN
 have hu : Tryz.prog.underlying 49 = some _ := Tryz.underlying49
 obtain ⟨xs, n, _, rfl, hl, hlen, hf⟩ := DataW.trod_struct hu h
 match xs, hlen with
 | [y0, y1], _ =>
  have hb : Rows.uptoBulk (DataW.agg (([y0, y1] : List (DataW H × List MemPlace)).map (·.1))) = Rows.uptoBulk y0.1 + (Rows.uptoBulk y1.1 + (0)) + 1 := by simp [Rows.uptoBulk, Rows.uptoBulkAll]
  replace hN : Rows.uptoBulk (DataW.agg (([y0, y1] : List (DataW H × List MemPlace)).map (·.1))) ≤ N + 1 := hN
  rw [hb] at hN
  have p0 := bulk_pos y0.1
  have h0 := hf 0 _ rfl
  have p1 := bulk_pos y1.1
  have h1 := hf 1 _ rfl
  refine Exists.imp (fun x hx => ⟨hx.1, hb.symm ▸ hx.2⟩) (?_ : ∃ x, (kPm).K W x cs ∧ pmB (Rows.uptoBulk y0.1 + (Rows.uptoBulk y1.1 + (0)) + 1) x)
  obtain ⟨s, k0, b0⟩ := opb_string (N := N) Tryz.underlying9 H enc W n _ _ (h0.trans rfl) (by omega)
  obtain ⟨t, k1, b1⟩ := opb_int (N := N) Tryz.underlying3 H enc W n _ _ (h1.trans rfl) (by omega)
  have e0 : (cs.drop 0).take (Tryz.prog.cellsOf 9) = [.string s] := k0
  rw [c1_string] at e0
  have e1 : (cs.drop 1).take (Tryz.prog.cellsOf 3) = [.int .i64 t] := k1
  rw [c1_int] at e1
  have hc : Tryz.prog.cellsOf 49 = 2 := by kernel_rfl
  rw [hc] at hl
  match cs, hl with
  | [u0, u1], _ =>
   simp at e0 e1
   subst e0 e1
   refine ⟨⟨s, t⟩, ⟨[.string s], [.int .i64 t], rfl, rfl, rfl⟩, ?_⟩
   exact ⟨by show s.size ≤ _; omega, by show 8 + s.size ≤ _; omega⟩
theorem opb_fc (N : Nat) (hM : N + 1 ≤ 1000000000) : OpB (N + 1) kFc 46 fcB := by
 intro H enc W fuel cs y h hN
 have hu : Tryz.prog.underlying 46 = some _ := Tryz.underlying46
 obtain ⟨xs, n, _, rfl, hl, hlen, hf⟩ := DataW.trod_struct hu h
 match xs, hlen with
 | [y0, y1, y2, y3, y4, y5], _ =>
  have hb : Rows.uptoBulk (DataW.agg (([y0, y1, y2, y3, y4, y5] : List (DataW H × List MemPlace)).map (·.1))) = Rows.uptoBulk y0.1 + (Rows.uptoBulk y1.1 + (Rows.uptoBulk y2.1 + (Rows.uptoBulk y3.1 + (Rows.uptoBulk y4.1 + (Rows.uptoBulk y5.1 + (0)))))) + 1 := by simp [Rows.uptoBulk, Rows.uptoBulkAll]
  replace hN : Rows.uptoBulk (DataW.agg (([y0, y1, y2, y3, y4, y5] : List (DataW H × List MemPlace)).map (·.1))) ≤ N + 1 := hN
  rw [hb] at hN
  have p0 := bulk_pos y0.1
  have h0 := hf 0 _ rfl
  have p1 := bulk_pos y1.1
  have h1 := hf 1 _ rfl
  have p2 := bulk_pos y2.1
  have h2 := hf 2 _ rfl
  have p3 := bulk_pos y3.1
  have h3 := hf 3 _ rfl
  have p4 := bulk_pos y4.1
  have h4 := hf 4 _ rfl
  have p5 := bulk_pos y5.1
  have h5 := hf 5 _ rfl
  refine Exists.imp (fun x hx => ⟨hx.1, hb.symm ▸ hx.2⟩) (?_ : ∃ x, (kFc).K W x cs ∧ fcB (Rows.uptoBulk y0.1 + (Rows.uptoBulk y1.1 + (Rows.uptoBulk y2.1 + (Rows.uptoBulk y3.1 + (Rows.uptoBulk y4.1 + (Rows.uptoBulk y5.1 + (0)))))) + 1) x)
  obtain ⟨s, k0, b0⟩ := opb_string (N := N) Tryz.underlying9 H enc W n _ _ (h0.trans rfl) (by omega)
  obtain ⟨ps, k1, b1⟩ := opb_slice (N := N) Tryz.underlying42 sz_pm ((opb_pm N (by omega)).mono (Nat.le_succ N)) H enc W n _ _ (h1.trans rfl) (by omega)
  obtain ⟨A1, c1, e1, l1, g1⟩ := k1
  obtain ⟨t, k2, b2⟩ := opb_int (N := N) Tryz.underlying3 H enc W n _ _ (h2.trans rfl) (by omega)
  obtain ⟨b, k3, b3⟩ := opb_slice (N := N) Tryz.underlying43 sz_st (opb_st N (by omega)) H enc W n _ _ (h3.trans rfl) (by omega)
  obtain ⟨A3, c3, e3, l3, g3⟩ := k3
  obtain ⟨a, k4, b4⟩ := opb_int (N := N) Tryz.underlying3 H enc W n _ _ (h4.trans rfl) (by omega)
  obtain ⟨ls, k5, b5⟩ := opb_slice (N := N) Tryz.underlying44 sz_int (opb_int Tryz.underlying3) H enc W n _ _ (h5.trans rfl) (by omega)
  obtain ⟨A5, c5, e5, l5, g5⟩ := k5
  have e0 : (cs.drop 0).take (Tryz.prog.cellsOf 9) = [.string s] := k0
  rw [c1_string] at e0
  have e1 : (cs.drop 1).take (Tryz.prog.cellsOf 42) = [.slice A1 ps.length c1] := e1
  rw [c1_Params] at e1
  have e2 : (cs.drop 2).take (Tryz.prog.cellsOf 3) = [.int .i64 t] := k2
  rw [c1_int] at e2
  have e3 : (cs.drop 3).take (Tryz.prog.cellsOf 43) = [.slice A3 b.length c3] := e3
  rw [c1_Stmts] at e3
  have e4 : (cs.drop 4).take (Tryz.prog.cellsOf 3) = [.int .i64 a] := k4
  rw [c1_int] at e4
  have e5 : (cs.drop 5).take (Tryz.prog.cellsOf 44) = [.slice A5 ls.length c5] := e5
  rw [c1_ints] at e5
  have hc : Tryz.prog.cellsOf 46 = 6 := by kernel_rfl
  rw [hc] at hl
  match cs, hl with
  | [u0, u1, u2, u3, u4, u5], _ =>
   simp at e0 e1 e2 e3 e4 e5
   subst e0 e1 e2 e3 e4 e5
   refine ⟨⟨s, ps, t, b, a, ls⟩, ⟨[.string s], _, rfl, rfl, [.slice A1 ps.length c1], _, rfl, ⟨A1, c1, rfl, l1, g1⟩, [.int .i64 t], _, rfl, rfl, [.slice A3 b.length c3], _, rfl, ⟨A3, c3, rfl, l3, g3⟩, [.int .i64 a], [.slice A5 ls.length c5], rfl, rfl, ⟨A5, c5, rfl, l5, g5⟩⟩, ?_⟩
   obtain ⟨h1, h2⟩ := pms_B b1.2
   obtain ⟨h4, h5, h6⟩ := sts_B b3.2
   have q1 := RwB.length b1.2
   have q3 := RwB.length b3.2
   refine ⟨⟨by show s.size ≤ _; omega, h1⟩, ⟨by show ps.length ≤ _; omega, by show b.length ≤ _; omega⟩, h4, h5, ?_⟩
   have h7 := h6 1 (Rows.uptoBulk y3.1) (by omega)
   show 40 + s.size + wtPs ps + wtSs b 1 ≤ _
   generalize hB : Rows.uptoBulk y0.1 + (Rows.uptoBulk y1.1 + (Rows.uptoBulk y2.1 + (Rows.uptoBulk y3.1 + (Rows.uptoBulk y4.1 + (Rows.uptoBulk y5.1 + 0))))) + 1 = B
   refine Nat.le_trans ?_ (Nat.mul_le_mul_right (408 + 4 * B) (show 1 + s.size + (Rows.uptoBulk y1.1 - 1) + (Rows.uptoBulk y3.1 - 1) ≤ B by omega))
   simp only [Nat.add_mul]
   have x1 : s.size ≤ s.size * (408 + 4 * B) := Nat.le_mul_of_pos_right _ (by omega)
   have x2 : (Rows.uptoBulk y1.1 - 1) * 200 ≤ (Rows.uptoBulk y1.1 - 1) * (408 + 4 * B) := Nat.mul_le_mul_left _ (by omega)
   have x3 : (Rows.uptoBulk y3.1 - 1) * (400 + 4 * Rows.uptoBulk y3.1) ≤ (Rows.uptoBulk y3.1 - 1) * (408 + 4 * B) := Nat.mul_le_mul_left _ (by omega)
   omega
/-! ### A module, opened -/
theorem vrs_B : ∀ {l : List Vr} {n : Nat}, RwB vrB n l → (∀ v ∈ l, v.name.size ≤ 1000000000 ∧ I64 v.value ∧ I64 v.size) ∧ sumN wtV l ≤ n * 200
 | [], n, _ => ⟨by simp, Nat.zero_le _⟩
 | e :: l, n, ⟨m, k, h1, h2, ⟨h3, h4, h5, h9⟩, h6⟩ => by
  obtain ⟨h7, h8⟩ := vrs_B h6
  refine ⟨fun p hp => ?_, ?_⟩
  ·rcases List.mem_cons.1 hp with rfl | hp
   ·exact ⟨h5, h4, h3⟩
   ·exact h7 p hp
  ·show wtV e + sumN wtV l ≤ n * 200
   omega
theorem fcs_B : ∀ {l : List Fc} {n : Nat}, RwB fcB n l → (∀ f ∈ l, (f.name.size ≤ 1000000000 ∧ ∀ p ∈ f.params, p.name.size ≤ 1000000000) ∧ (f.params.length ≤ 1000000000 ∧ f.body.length ≤ 1000000000) ∧ smSs f.body ∧ lnSs f.body) ∧ ∀ D, n ≤ D → sumN wtF l ≤ n * (408 + 4 * D)
 | [], n, _ => ⟨by simp, fun _ _ => Nat.zero_le _⟩
 | e :: l, n, ⟨m, k, h1, h2, ⟨h3, h4, h5, h10, h9⟩, h6⟩ => by
  obtain ⟨h7, h8⟩ := fcs_B h6
  refine ⟨fun p hp => ?_, fun D hD => ?_⟩
  ·rcases List.mem_cons.1 hp with rfl | hp
   ·exact ⟨h3, h4, h5, h10⟩
   ·exact h7 p hp
  ·show wtF e + sumN wtF l ≤ n * (408 + 4 * D)
   have e1 := h8 D (by omega)
   have e2 : m * (408 + 4 * m) ≤ m * (408 + 4 * D) := Nat.mul_le_mul_left _ (by omega)
   have e3 : (m + k) * (408 + 4 * D) ≤ n * (408 + 4 * D) := Nat.mul_le_mul_right _ h2
   rw [Nat.add_mul] at e3
   omega
theorem open_mod (H : Type) (enc : TypeId × Value → H) (W : World) (fuel : Nat) (cs : List Value) (y : DataW H × List MemPlace) (h : DataW.trod enc Tryz.prog W 0 (fun _ => true) true fuel 25 cs = some y) (hN : Rows.uptoBulk y.1 ≤ 1048576) :
  ∃ m A0 c0 A1 c1, cs = [.slice A0 m.vars.length c0, .slice A1 m.funcs.length c1] ∧ m.vars.length ≤ c0 ∧ kVr.C W A0 m.vars.length m.vars ∧ m.funcs.length ≤ c1 ∧ kFc.C W A1 m.funcs.length m.funcs ∧ SmM m ∧ lnM m ∧ (m.vars.length ≤ 1000000000 ∧ m.funcs.length ≤ 1000000000) ∧ ∀ v ∈ m.vars, I64 v.size := by
 obtain ⟨N, hNN⟩ : ∃ N, N = 1048575 := ⟨_, rfl⟩
 replace hN : Rows.uptoBulk y.1 ≤ N + 1 := by omega
 have hM : N ≤ 999999998 := by omega
 have hM2 : N + 1 = 1048576 := by omega
 clear hNN
 have hu : Tryz.prog.underlying 25 = some _ := Tryz.underlying25
 obtain ⟨xs, n, _, rfl, hl, hlen, hf⟩ := DataW.trod_struct hu h
 match xs, hlen with
 | [y0, y1], _ =>
  have hb : Rows.uptoBulk (DataW.agg (([y0, y1] : List (DataW H × List MemPlace)).map (·.1))) = Rows.uptoBulk y0.1 + (Rows.uptoBulk y1.1 + (0)) + 1 := by simp [Rows.uptoBulk, Rows.uptoBulkAll]
  replace hN : Rows.uptoBulk (DataW.agg (([y0, y1] : List (DataW H × List MemPlace)).map (·.1))) ≤ N + 1 := hN
  rw [hb] at hN
  have p0 := bulk_pos y0.1
  have h0 := hf 0 _ rfl
  have p1 := bulk_pos y1.1
  have h1 := hf 1 _ rfl
  obtain ⟨vs, k0, b0⟩ := opb_slice (N := N) Tryz.underlying22 sz_vr ((opb_vr N (by omega)).mono (Nat.le_succ N)) H enc W n _ _ (h0.trans rfl) (by omega)
  obtain ⟨A0, c0, e0, l0, g0⟩ := k0
  obtain ⟨fs, k1, b1⟩ := opb_slice (N := N) Tryz.underlying23 sz_fc ((opb_fc N (by omega)).mono (Nat.le_succ N)) H enc W n _ _ (h1.trans rfl) (by omega)
  obtain ⟨A1, c1, e1, l1, g1⟩ := k1
  have e0 : (cs.drop 0).take (Tryz.prog.cellsOf 22) = [.slice A0 vs.length c0] := e0
  rw [c1_Vars] at e0
  have e1 : (cs.drop 1).take (Tryz.prog.cellsOf 23) = [.slice A1 fs.length c1] := e1
  rw [c1_Funcs] at e1
  have hc : Tryz.prog.cellsOf 25 = 2 := by kernel_rfl
  rw [hc] at hl
  match cs, hl with
  | [u0, u1], _ =>
   simp at e0 e1
   subst e0 e1
   obtain ⟨h1, h2⟩ := vrs_B b0.2
   obtain ⟨h3, h4⟩ := fcs_B b1.2
   have q0 := RwB.length b0.2
   have q1 := RwB.length b1.2
   refine ⟨⟨vs, fs⟩, A0, c0, A1, c1, rfl, l0, g0, l1, g1, ⟨fun v hv => ⟨(h1 v hv).1, (h1 v hv).2.1.1, (h1 v hv).2.1.2⟩, fun f hf => ?_, fun _ => ?_⟩, ⟨by show fs.length ≤ _; omega, fun f hf => ⟨(h3 f hf).2.1.2, (h3 f hf).2.2.2⟩⟩, ⟨by show vs.length ≤ _; omega, by show fs.length ≤ _; omega⟩, fun v hv => (h1 v hv).2.2⟩
   ·obtain ⟨x1, x2, x3, x4⟩ := h3 f hf
    exact ⟨x1.1, x2.1, x1.2, x3⟩
   ·have := mod_wt ⟨vs, fs⟩
    refine Nat.le_trans this ?_
    show sumN wtV vs + sumN wtF fs ≤ LIM
    have x1 := h4 1048576 (by omega)
    have x2 : (Rows.uptoBulk y1.1 - 1) * (408 + 4 * 1048576) ≤ 1048576 * (408 + 4 * 1048576) := Nat.mul_le_mul_right _ (by omega)
    have x3 : 1048576 * (408 + 4 * 1048576) = 4398474330112 := by decide
    show _ ≤ 140737488355328
    omega
/-! ### The tables, as they are laid -/
def laidL : List (String × DataW Unit) := [("math/bits.deBruijn32tab", Rows.laid_math_bits_deBruijn32tab), ("math/bits.deBruijn64tab", Rows.laid_math_bits_deBruijn64tab), ("internal/strconv.uint64pow10", Rows.laid_internal_strconv_uint64pow10), ("unicode/utf8.acceptRanges", Rows.laid_unicode_utf8_acceptRanges), ("strconv.ErrRange", Rows.laid_strconv_ErrRange), ("strconv.ErrSyntax", Rows.laid_strconv_ErrSyntax), ("tiltyard/printer.types", Rows.laid_tiltyard_printer_types), ("tiltyard/printer.signs", Rows.laid_tiltyard_printer_signs), ("unicode/utf8.first", Rows.laid_unicode_utf8_first)]
theorem gER : Tryz.prog.globalNamed "strconv.ErrRange" = some 4 := by kernel_rfl
theorem gERT : (Tryz.prog.globals[4]?).map (·.type) = some 115 := by kernel_rfl
theorem gP10 : Tryz.prog.globalNamed "internal/strconv.uint64pow10" = some 5 := by kernel_rfl
theorem gP10T : (Tryz.prog.globals[5]?).map (·.type) = some 216 := by kernel_rfl
theorem gTY : Tryz.prog.globalNamed "tiltyard/printer.types" = some 0 := by kernel_rfl
theorem gTYT : (Tryz.prog.globals[0]?).map (·.type) = some 81 := by kernel_rfl
theorem gSG : Tryz.prog.globalNamed "tiltyard/printer.signs" = some 1 := by kernel_rfl
theorem gSGT : (Tryz.prog.globals[1]?).map (·.type) = some 174 := by kernel_rfl
theorem starE : "*" ++ "errors.errorString" = "*errors.errorString" := by decide
theorem rowE (u : TypeId) (h : Tryz.prog.typeName? 3 u = some "*errors.errorString") : u = 221 :=
 typeName_ptr_named (nm := "errors.errorString") (by rw [starE]; kernel_rfl) (by kernel_rfl) (by decide) u (by rw [starE]; exact h)
/-- a laid row of strings -/
theorem strs_of {W : World} {n : String} {d : List (List UInt8)} {g t N : Nat} (hm : (n, DataW.agg (d.map fun s => DataW.lit (.string s))) ∈ laidL) (h : laidMet Tryz.prog laidL W) (hg0 : Tryz.prog.globalNamed n = some g) (ht0 : (Tryz.prog.globals[g]?).map (·.type) = some t) (hu : Tryz.prog.underlying t = some (.array N 9)) (hN : d.length = N) :
  ∀ j, j < N → W.cell? ⟨g, j, none⟩ = some (.string ⟨(d.getD j []).toArray⟩) := by
 obtain ⟨g', t', cs, fuel, p, hg, ht, hv, hd⟩ := Lib.laidMet.reads h hm
 obtain rfl := Option.some.inj (hg0.symm.trans hg)
 obtain rfl := Option.some.inj (ht0.symm.trans ht)
 intro j hj
 obtain ⟨f1, d1, q1, e1, t1⟩ := Lib.array_elem hu hd j hj
 have hjl : j < d.length := by omega
 rw [List.getElem?_map, List.getElem?_eq_getElem hjl] at e1
 obtain ⟨s2, u2, x2, _⟩ := DataW.trod_string Tryz.underlying9 t1
 have x2' := congrArg Prod.fst x2
 simp only at x2'
 have k2 : d[j] = s2.data.toList := by
  have : d1 = .lit (.string d[j]) := by simpa using e1.symm
  rw [this] at x2'
  injection x2' with h; injection h
 rw [c1_string] at u2
 have w2 : cs[j]? = some (.string s2) := by
  have := congrArg (·[0]?) u2
  simp [List.getElem?_take, List.getElem?_drop] at this
  simpa using this
 have hgd : d.getD j [] = d[j] := by rw [List.getD_eq_getElem?_getD, List.getElem?_eq_getElem hjl]; rfl
 rw [hgd, k2]
 exact (World.var?_cell hg0 hv j).trans w2
theorem gw_of {W : World} (hL : laidMetH Tryz.prog laidL W) : GW W := by
 have h : laidMet Tryz.prog laidL W := hL
 refine ⟨?_, ?_, fun j hj => ?_, fun j hj => ?_⟩
 ·obtain ⟨a1, s1, hv1, -, -, -⟩ := laid_sentinel (h.tail.tail.tail.tail) gER gERT Tryz.underlying115 rowE Tryz.underlying221 Tryz.underlying223 rfl rfl Tryz.underlying9 (by kernel_rfl) c1_string
  exact ⟨_, _, by have h0 := World.var?_cell gER hv1 0; simpa using h0⟩
 ·exact Lib.tabIs_of_head (k := .u64) (zs := Lib.pow10Tab) gP10 gP10T Tryz.underlying216 Tryz.underlying126 (by kernel_rfl) (by kernel_rfl) h.tail.tail
 ·have := strs_of (d := [[], [105, 110, 116], [102, 105, 120], [98, 111, 111, 108], [101, 110, 116]]) (.tail _ (.tail _ (.tail _ (.tail _ (.tail _ (.tail _ (.head _))))))) h gTY gTYT Tryz.underlying81 rfl j hj
  rw [this]
  rcases (show j = 0 ∨ j = 1 ∨ j = 2 ∨ j = 3 ∨ j = 4 by omega) with rfl | rfl | rfl | rfl | rfl <;> rfl
 ·have := strs_of (d := sgL) (.tail _ (.tail _ (.tail _ (.tail _ (.tail _ (.tail _ (.tail _ (.head _)))))))) h gSG gSGT Tryz.underlying174 rfl j hj
  exact this
/-- the witness of a row with laid variables, its world given -/
theorem witness_laid {H : Type} {enc : TypeId × Value → H} {C : Checked} {os : Os} {f : FuncId} {fn : Func} {s : OpenSpec} {conds : List PathCond} {apart : Bool} {laid : List (String × DataW Unit)} (modest : Bool) (w0 : World) (args : Array Value) (hos : w0.os = os)
  (hsh : (w0.forCall (fun _ _ => 0) ⟨#[], args, []⟩).Shaped C.prog)
  (hok : Input.okWideB C.prog (w0.forCall (fun _ _ => 0) ⟨#[], args, []⟩) f ⟨#[], args, []⟩ = true)
  (hrow : s.preRow enc C.prog fn conds apart laid (w0.forCall (fun _ _ => 0) ⟨#[], args, []⟩).memory args) :
  ∃ (w : World) (tape : Tape) (i : Input), w.os = os ∧ (w.forCall tape i).Shaped C.prog ∧ i.vars = [] ∧ Input.okWide C.prog (w.forCall tape i) .any w.heap.size f i ∧
   s.preRow enc C.prog fn conds apart laid (w.forCall tape i).memory i.args ∧ ({ modest := modest } : Assume).holds C.prog (lone (Frame.enter C.prog f i.args .normal) [] (w.forCall tape i)) :=
 ⟨w0, fun _ _ => 0, ⟨#[], args, []⟩, hos, hsh, (Input.okWide_of_okWideB (base := 0) hok).1, (Input.okWide_of_okWideB hok).2, hrow, by
  simp only [Assume.holds]
  exact ⟨by simp, by simp, fun _ => Modest.zero, by simp, by simp⟩⟩
end Go.Proofs.YtpfdhihbecpbeaaGreatDoor.E
namespace Go.Proofs.YtpfdhihbecpbeaaGreatDoor.printerLines
open Go Go.Proofs.YtpfdhihbecpbeaaGreatDoor Go.ChangeShapes Go.WideShapes Go.ChangeAt Go.RowKit
set_option linter.unusedVariables false
theorem own : ownKnob Tryz.prog.godebug = none := by kernel_rfl
theorem laidOut : laidOutB Tryz.prog = true := by kernel_rfl
set_option maxRecDepth 100000 in
theorem contract (H : Type) (enc : TypeId × Value → H) (W : World) (base : Nat) (args : Array Value) (ds gs : List (DataW H)) (before : List MemPlace)
  (hval : ∀ (j : Nat) t v, Tryz.f6.params[j]? = some t → args[j]? = some v → Value.okWide Tryz.prog W .any base t v)
  (hW : DataW.Whole enc Tryz.prog Tryz.f6.params.toList Rows.printerLinesSpec.vars false W args.toList ds gs before) (hL : laidMetH Tryz.prog E.laidL W) (hk : Rows.uptoBulkAll (ds ++ gs) ≤ 1048576) :
  Calls Tryz.prog 6 args W fun e W' => ∃ v, e = .returned v ∧ Rows.printerLinesSpec.post enc Tryz.prog Tryz.f6 false true false false W args v W' := by
 have hW' := hW
 obtain ⟨p, q, hA0, hV, rfl, hfz, hnd⟩ := hW
 have hA : DataW.TrodAll enc Tryz.prog W 0 (fun _ => true) true Tryz.f6.params.toList args.toList ds p := hA0
 rw [Tryz.params6] at hA hval
 obtain ⟨v0, vs0, d0, ds0, p0, q0, hargs, rfl, rfl, h0, r0⟩ := trodAll_cons hA
 obtain ⟨rfl, rfl, rfl⟩ := trodAll_nil r0
 obtain rfl : args = #[v0] := by cases args; simp_all
 obtain ⟨rfl, rfl⟩ := trodVars_none hV
 have k0 := h0
 have lt0 : ∀ x ∈ p0, x.block < W.heap.size := by obtain ⟨m, hm⟩ := k0; exact DataW.trod_lt m _ _ _ hm
 obtain ⟨fuel, hf⟩ := h0
 have hbk : Rows.uptoBulk d0 ≤ 1048576 := by simp only [List.append_nil, Rows.uptoBulkAll] at hk; omega
 obtain ⟨m, A0, c0, A1, c1, hcs, l0, g0, l1, g1, hsm, hln, hlen, hz⟩ := E.open_mod H enc W fuel _ _ hf hbk
 have hv0 : v0 = .agg #[.slice A0 m.vars.length c0, .slice A1 m.funcs.length c1] := by
  cases v0 <;> simp [Value.cells] at hcs
  exact congrArg Value.agg (Array.ext' hcs)
 subst hv0
 clear hA0
 refine (E.lines_any m hsm hln A0 A1 c0 c1 W g0 g1 (E.gw_of hL)).mono fun e W' ⟨he, bel⟩ => ?_
 subst he
 exact ⟨_, rfl, _, _, _, [], _, [], hW', trodAll_mk1 (shut_bool Tryz.underlying4 _), trodAll_cons_mk (Below.trod laidOut (by kernel_rfl) (of_decide_eq_true (by kernel_rfl)) k0 bel lt0) trodAll_mk0, rfl, bel.frame _, fun h => by cases h⟩
theorem laid_met (os : Os) (args : Array Value) : laidMetH Tryz.prog Rows.printerLinesRow.laid ((World.laidAll Tryz.prog os Rows.printerLinesRow.laid).forCall (fun _ _ => 0) ⟨#[], args, []⟩).memory := by
 rw [MakeChecks.laidMetH_plain _ _ _ (by kernel_rfl)]
 exact laidMet_laidAll _ (by kernel_rfl) (by kernel_rfl)
theorem reads (os : Os) {H : Type} (enc : TypeId × Value → H) : ∃ places, DataW.whole enc Tryz.prog ((World.laidAll Tryz.prog os Rows.printerLinesRow.laid).forCall (fun _ _ => 0) ⟨#[], #[.agg #[.slice none 0 0, .slice none 0 0]], []⟩).memory Tryz.f6.params.toList Rows.printerLinesSpec.vars false #[Value.agg #[.slice none 0 0, .slice none 0 0]].toList 8 = some ([.agg [.nil, .nil]], [], places) :=
 ⟨[], by kernel_rfl⟩
set_option maxRecDepth 100000 in
theorem liftedUpto (os : Os) (started : os.Started) (H : Type) (enc : TypeId × Value → H) (F : Stop.Interp) :
  ReturnsInHanded {} Tryz.checked os 6 .any ((Rows.OpenSpec.upto Rows.printerLinesSpec).preRow enc Tryz.prog Tryz.f6 Rows.printerLinesUptoRow.domain false Rows.printerLinesUptoRow.laid) (((Rows.OpenSpec.upto Rows.printerLinesSpec).at F).post enc Tryz.prog Tryz.f6 false true false false) := by
 obtain ⟨places, hx⟩ := reads os enc
 refine returnsInHanded_of_row (C := Tryz.checked) (s := Rows.OpenSpec.upto Rows.printerLinesSpec) own started (by kernel_rfl) Tryz.func6
  (E.witness_laid (enc := enc) (C := Tryz.checked) false (World.laidAll Tryz.prog os Rows.printerLinesRow.laid) #[.agg #[.slice none 0 0, .slice none 0 0]] (World.laidAll_os _ _ _) (World.shaped_of_ZipB (by kernel_rfl) (by kernel_rfl)) (by kernel_rfl)
   (OpenSpec.preRow_of_cond 8 hx (by kernel_rfl) (fun k hk => by cases hk; kernel_rfl) (by kernel_rfl) (laid_met os _))) ?_
 intro W base args ds gs before hval hW h1 hcond h2 hL h3 h4
 exact contract H enc W base args ds gs before hval hW hL (of_decide_eq_true (hcond _ rfl))
theorem saidUpto : Rows.PrinterLinesUptoSaid :=
 OpenClaim.holds_of_cond 6 Tryz.f6 rfl rfl rfl rfl rfl rfl rfl ⟨rfl, rfl, rfl, rfl, rfl⟩ rfl rfl rfl rfl rfl (by kernel_rfl) Tryz.func6 (by kernel_rfl)
  (of_decide_eq_true (by kernel_rfl)) (by unfold Func.isWrapper; first | (rw [if_pos (by decide +kernel)]; kernel_rfl) | (rw [if_neg (by decide +kernel)]; exact ⟨rfl, rfl⟩))
  (fun os started H enc _ F => by rw [OpenClaim.pre_eq_preRow]; exact liftedUpto os started H enc F)
theorem plain (f : FuncId) (fn : Func) (hf : Tryz.pinned.checked.prog.funcNamed "tiltyard/tiltyardlaw10.PrinterLines" = some f) (hfn : Tryz.pinned.checked.prog.funcs[f]? = some fn) :
  true = Tryz.pinned.checked.prog.looks [] ∧ ∀ (j : Nat) t, fn.params[j]? = some t → Tryz.pinned.checked.prog.wantsStandIn t = false := by
 obtain rfl : f = 6 := Option.some.inj ((show Tryz.prog.funcNamed "tiltyard/tiltyardlaw10.PrinterLines" = some 6 by kernel_rfl).symm.trans hf) |>.symm
 obtain rfl : fn = Tryz.f6 := (Option.some.inj (Tryz.func6.symm.trans hfn)).symm
 refine ⟨by kernel_rfl, fun j t ht => ?_⟩
 rw [Tryz.params6] at ht
 obtain rfl : t = 25 := by simpa using Array.mem_of_getElem? ht
 exact (show Tryz.prog.wantsStandIn 25 = false by kernel_rfl)
theorem cardUpto : Rows.PrinterLinesUptoCardSaid :=
 Claim7.holds_tied_plain_at .later [] _ _ _ _ saidUpto (fun _ h => by cases h) (by kernel_rfl) (fun _ h => by cases h) printerLinesUpto_row_tie rfl ⟨rfl, rfl⟩ (by kernel_rfl) rfl plain (by kernel_rfl)
end Go.Proofs.YtpfdhihbecpbeaaGreatDoor.printerLines
