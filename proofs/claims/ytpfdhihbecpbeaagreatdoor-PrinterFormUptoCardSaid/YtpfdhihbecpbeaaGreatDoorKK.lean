import Derived.Test.YtpfdhihbecpbeaaGreatDoorKJ
import Derived.Test.YtpfdhihbecpbeaaGreatDoorKF
import Derived.Test.YtpfdhihbecpbeaaGreatDoorKI
import Derived.Test.YtpfdhihbecpbeaaGreatDoorKG
import Derived.Test.YtpfdhihbecpbeaaGreatDoorKW
/- Contracts of the program's functions, and lemmas: no statement of its own. -/
namespace Go.Proofs.YtpfdhihbecpbeaaGreatDoor.E
open Go Go.RowKit Go.Proofs.YtpfdhihbecpbeaaGreatDoorW.PrintWords Go.Proofs.YtpfdhihbecpbeaaGreatDoorW.PrintLast Go.Proofs.YtpfdhihbecpbeaaGreatDoorW.PrintMore
set_option linter.unusedVariables false
set_option linter.unusedSimpArgs false
set_option maxRecDepth 100000
set_option maxHeartbeats 4000000
def z0m (v : Vr) : Vr := ⟨v.name, v.type, v.size, v.value, 0⟩
def q8o (f : Fc) : Fc := ⟨f.name, f.params, f.type, q2h f.body, 0, []⟩
def z7x (m : Md) : Md := ⟨m.vars.map z0m, m.funcs.map q8o⟩
def nsF (f : Fc) : Nat := 1 + (z7w f.body).foldr max 0
def nsM (m : Md) : Nat := (m.funcs.map nsF).foldr max 0
theorem z3q {β : Type} {M : Nat} {t : Tok} {r rest : List Tok} {k : Int} {w : List UInt8} (h : tkT t = (k, w)) (h6 : k ≠ 6) (v : List UInt8) {f : Bool -> PM β} {Q : β -> Prop} (hf : Rd M (if (w == v && (k == 2 || k == 5)) = true then f true r else f false (t :: r)) Q rest) : Rd M ((z4a (tx v)).bind f (t :: r)) Q rest := by
 unfold PM.bind
 rw [x1w h h6]
 by_cases hc : (w == v && (k == 2 || k == 5)) = true
 ·rw [if_pos hc] at hf ⊢; exact hf
 ·rw [if_neg hc] at hf ⊢; exact hf
theorem x7s {t : Tok} {n : Nat} (h : tkT t = (3, Lib.decDigits n)) : q1v t = n := by
 unfold q1v
 have h1 : t.kind = 3 := congrArg Prod.fst h
 have h2 : toL t.text = Lib.decDigits n := congrArg Prod.snd h
 rw [h1, if_neg (by decide)]
 show (decU (toL t.text) : Int) = n
 rw [h2, z2e]
theorem j5h {t : Tok} {n : Nat} (hn : n < 9223372036854775808) (h : tkT t = (4, q4o n)) : q1v t = n := by
 unfold q1v
 have h1 : t.kind = 4 := congrArg Prod.fst h
 have h2 : toL t.text = q4o n := congrArg Prod.snd h
 rw [h1, if_pos rfl]
 show (z8g (toL t.text)).getD 0 = n
 rw [h2, (z3h n hn).1]; rfl
theorem x0g (n : Int) (h : -9223372036854775808 <= n /\ n <= 9223372036854775807) : wrap64 n = n := by unfold wrap64; omega
theorem z7y {ty v : Int} {ts r : List Tok} {k : Int} {w : List UInt8} (hty : (ty = 1 /\ k = 3) \/ (ty = 2 /\ k = 4)) (hlo : -9223372036854775808 < v) (hhi : v < 9223372036854775808)
  (hnum : ∀ t : Tok, tkT t = (k, w) -> q1v t = v.natAbs) (ht : Tk ts ((if v < 0 then [(5, [45])] else []) ++ [(k, w)])) (hw : w ≠ [45]) :
  ((z4a (tx [45])).bind fun b => q6g q1v ty (if b then -1 else 1)) (ts ++ r) = some (.ok (v, r)) := by
 have hk : k ≠ 6 /\ k ≠ 0 /\ (k == 2 || k == 5) = false := by rcases hty with ⟨_, rfl⟩ | ⟨_, rfl⟩ <;> decide
 have key : ∀ (t : Tok) (s : Int), tkT t = (k, w) -> s * (v.natAbs : Int) = v -> q6g q1v ty s (t :: r) = some (.ok (v, r)) := by
  intro t s h hs
  unfold q6g
  have h1 : t.kind = k := congrArg Prod.fst h
  have eh : (t :: r).headD q2m = t := rfl
  rw [eh, h1, if_neg (by omega), hnum t h, hs, q4j h hk.1, x0g _ (by omega)]
 unfold PM.bind
 by_cases hv : v < 0
 ·rw [if_pos hv] at ht
  obtain ⟨t1, r1, rfl, g1, h2⟩ := Tk.cons (k := 5) (w := [45]) (l := [(k, w)]) ht (by decide)
  obtain ⟨t2, r2, rfl, g2, h3⟩ := h2.cons hk.2.1
  obtain rfl := h3.nil
  rw [show [t1, t2] ++ r = t1 :: t2 :: r from rfl, x1w g1 (by decide), show (([45] : List UInt8) == [45] && ((5 : Int) == 2 || (5 : Int) == 5)) = true from rfl, if_pos rfl]
  exact key t2 (-1) g2 (by omega)
 ·rw [if_neg hv] at ht
  obtain ⟨t2, r2, rfl, g2, h3⟩ := Tk.cons (k := k) (w := w) (l := []) ht hk.2.1
  obtain rfl := h3.nil
  rw [show [t2] ++ r = t2 :: r from rfl, x1w g2 hk.1, hk.2.2, Bool.and_false, if_neg (by decide)]
  exact key t2 1 g2 (by omega)
theorem j7j (n : Nat) : q4o n ≠ [45] := by
 have e0 : q4o n = Lib.decDigits (n / 4294967296) ++ 46 :: q3m 40 (n % 4294967296) := by
  unfold q4o
  rw [if_neg (by omega)]
  simp
 rw [e0]
 intro e
 have := congrArg (fun l => (46 : UInt8) ∈ l) e
 simp at this
theorem j7k (n : Nat) : Lib.decDigits n ≠ [45] := fun e => by
 have := z2f n 45 (by rw [e]; simp)
 exact absurd this.1 (by decide)
theorem j7l {v : Vr} (h : VOK v) (ts rest : List Tok) (ht : Tk ts (vrI v)) : Rd 0 (q3h q1v (ts ++ rest)) (fun x => z0m x = z0m v) rest := by
 obtain ⟨h1, h2, h3, h4, h5⟩ := h.facts
 have ht2 : Tk ts ((2, [118, 97, 114]) :: (0, [32]) :: (1, toL v.name) :: (5, [58]) :: (0, [32]) :: ((if 0 < v.size then [(5, [91]), (3, Lib.itoa v.size), (5, [93]), (0, [32])] else []) ++ (2, tyT v.type) :: (vlI v ++ [(5, [59]), (0, [10])]))) := ht
 obtain ⟨u1, r1, rfl, g1, k1⟩ := ht2.cons (by decide)
 obtain ⟨u2, r2, rfl, g2, k2⟩ := k1.blank.cons (by decide)
 obtain ⟨u3, r3, rfl, g3, k3⟩ := k2.cons (by decide)
 obtain ⟨t4, t5, rfl, k4, k5⟩ := k3.blank.app
 obtain ⟨u5, r5, rfl, g5, k6⟩ := k5.cons (by decide)
 obtain ⟨t6, t7, rfl, k7, k8⟩ := k6.app
 obtain ⟨u6, r6, rfl, g6, k9⟩ := k8.cons (by decide)
 obtain rfl := Tk.nil k9.blank
 have e1 : u1 :: u2 :: u3 :: (t4 ++ u5 :: (t6 ++ [u6])) ++ rest = u1 :: u2 :: u3 :: (t4 ++ u5 :: (t6 ++ u6 :: rest)) := by simp
 rw [e1]
 unfold q3h
 refine q3t g1 (.inl rfl) (z5y g2 (q3t g3 (.inr rfl) ?_))
 by_cases hs : 0 < v.size
 ·rw [if_pos hs] at k4
  obtain ⟨w1, q1, rfl, y1, z1⟩ := k4.cons (by decide)
  obtain ⟨w2, q2, rfl, y2, z2⟩ := z1.cons (by decide)
  obtain ⟨w3, q3, rfl, y3, z3⟩ := z2.cons (by decide)
  obtain rfl := Tk.nil z3.blank
  have hv0 := h5 (.inl hs)
  have ht6 : t6 = [] := Tk.nil (by unfold vlI at k7; rw [if_pos hv0] at k7; exact k7)
  subst ht6
  show Rd 0 (PM.bind _ _ (w1 :: w2 :: w3 :: u5 :: u6 :: rest)) _ _
  refine z3q y1 (by decide) [91] ?_
  rw [if_pos rfl]
  refine Rd.bind (N := 0) (P := fun x => z0m x = z0m v) (t1 := u6 :: rest) ?_ (Nat.le_refl _) (fun x hx => q3t g6 (.inr rfl) (Rd.ok hx))
  try rw [if_pos rfl]
  refine Rd.bind (N := 0) (P := fun n => n = v.size) (t1 := w3 :: u5 :: u6 :: rest) ?_ (Nat.le_refl _) ?_
  ·unfold x2j
   have hk : w2.kind = 3 := congrArg Prod.fst y2
   rw [show v.size = ((v.size.toNat : Nat) : Int) by omega, z2i] at y2
   have hn := x7s y2
   rw [show ((v.size.toNat : Nat) : Int) = v.size by omega] at hn
   have eh : (w2 :: w3 :: u5 :: u6 :: rest).headD q2m = w2 := rfl
   rw [eh, hk, hn, if_neg (by decide), if_neg (by omega), q4j y2 (by decide)]
   exact Rd.ok rfl
  ·rintro _ rfl
   refine q3t y3 (.inr rfl) (q7x h2 g5 (Rd.ok ?_))
   show Vr.mk u2.text v.type v.size 0 0 = ⟨v.name, v.type, v.size, v.value, 0⟩
   rw [q5h g2, hv0]
 ·rw [if_neg hs] at k4
  obtain rfl := Tk.nil k4
  have hs0 : v.size = 0 := by omega
  show Rd 0 (PM.bind _ _ (u5 :: (t6 ++ u6 :: rest))) _ _
  refine z3q g5 (by decide) [91] ?_
  have hty : (tyT v.type == [91] && ((2 : Int) == 2 || (2 : Int) == 5)) = false := by
   unfold q1c at h2
   rw [decide_eq_true_eq] at h2
   have : v.type = 1 \/ v.type = 2 \/ v.type = 3 \/ v.type = 4 := by omega
   rcases this with q | q | q | q <;> rw [q] <;> decide
  rw [hty, if_neg (by decide)]
  refine Rd.bind (N := 0) (P := fun x => z0m x = z0m v) (t1 := u6 :: rest) ?_ (Nat.le_refl _) (fun x hx => q3t g6 (.inr rfl) (Rd.ok hx))
  try rw [if_neg (by decide)]
  refine q7x h2 g5 ?_
  by_cases hv0 : v.value = 0
  ·have ht6 : t6 = [] := Tk.nil (by unfold vlI at k7; rw [if_pos hv0] at k7; exact k7)
   subst ht6
   rw [List.nil_append]
   refine z3q g6 (by decide) [61] ?_
   rw [if_neg (by decide)]
   try rw [if_neg (by decide)]
   refine Rd.ok ?_
   show Vr.mk u2.text v.type 0 0 0 = ⟨v.name, v.type, v.size, v.value, 0⟩
   rw [q5h g2, hv0, hs0]
  ·unfold vlI at k7
   rw [if_neg hv0] at k7
   obtain ⟨w1, q1, rfl, y1, z1⟩ := k7.blank.cons (by decide)
   show Rd 0 (PM.bind _ _ (w1 :: (q1 ++ u6 :: rest))) _ _
   refine z3q y1 (by decide) [61] ?_
   rw [if_pos rfl]
   try rw [if_pos rfl]
   refine Rd.bind (N := 0) (P := fun x => x = v.value) (t1 := u6 :: rest) ?_ (Nat.le_refl _) ?_
   ·have z2 := z1.blank
    unfold q9k
    unfold q1c at h2
    rw [decide_eq_true_eq] at h2
    have : v.type = 1 \/ v.type = 2 \/ v.type = 3 \/ v.type = 4 := by omega
    rcases this with q | q | q | q
    ·rw [if_neg (by omega), if_neg (by omega)]
     rw [if_pos (Or.inl q), if_pos q] at z2
     rw [z7y (.inl ⟨q, rfl⟩) h.lo h.hi (fun t ht => x7s ht) z2 (j7k _)]
     exact Rd.ok rfl
    ·rw [if_neg (by omega), if_neg (by omega)]
     rw [if_pos (Or.inr q), if_neg (show ¬ v.type = 1 by omega), if_pos q] at z2
     rw [z7y (.inr ⟨q, rfl⟩) h.lo h.hi (fun t ht => j5h (by have := h.lo; have := h.hi; omega) ht) z2 (j7j _)]
     exact Rd.ok rfl
    ·rw [if_pos q]
     rw [if_neg (show ¬ (v.type = 1 \/ v.type = 2) by omega), if_neg (show ¬ v.type = 1 by omega), if_neg (show ¬ v.type = 2 by omega)] at z2
     have z3 : Tk q1 [(2, [116, 114, 117, 101])] := z2
     obtain ⟨w2, q2, rfl, y2, z4⟩ := z3.cons (by decide)
     obtain rfl := z4.nil
     refine z3q y2 (by decide) [116, 114, 117, 101] ?_
     rw [if_pos rfl]
     try rw [if_pos rfl]
     exact Rd.ok ((h.b q).resolve_left hv0).symm
    ·exact absurd (h5 (.inr q)) hv0
   ·rintro _ rfl
    refine Rd.ok ?_
    show Vr.mk u2.text v.type 0 v.value 0 = ⟨v.name, v.type, v.size, v.value, 0⟩
    rw [q5h g2, hs0]
theorem j1k (v : Vr) (ts : List Tok) (ht : Tk ts (vrI v)) : ∃ t r, ts = t :: r /\ tkT t = (2, [118, 97, 114]) := by
 have ht2 : ∃ q, Tk ts ((2, [118, 97, 114]) :: q) := ⟨_, ht⟩
 obtain ⟨q, ht2⟩ := ht2
 obtain ⟨u1, r1, e, g1, k1⟩ := ht2.cons (by decide)
 exact ⟨u1, r1, e, g1⟩
theorem x7t : ∀ (l : List Vr), (∀ v ∈ l, VOK v) -> ∀ (m : Nat) (acc : List Vr) (ts rest : List Tok), isT (tx [118, 97, 114]) rest = false -> Tk ts (l.map vrI).flatten -> acc.length + l.length <= 64 ->
  Rd 0 (q8s q1v m acc (ts ++ rest)) (fun x => ∃ y, x = acc ++ y /\ y.map z0m = l.map z0m) rest
 | [], hk, m, acc, ts, rest, hr, ht, hl => by
  obtain rfl := Tk.nil ht
  cases m with
  | zero => exact .inl rfl
  | succ m =>
   unfold q8s
   rw [List.nil_append, hr]
   exact Rd.ok ⟨[], by simp, rfl⟩
 | v :: l, hk, m, acc, ts, rest, hr, ht, hl => by
  have ht2 : Tk ts (vrI v ++ (l.map vrI).flatten) := ht
  obtain ⟨t1, t2, rfl, h1, h2⟩ := ht2.app
  obtain ⟨th, tr1, he, hh⟩ := j1k v t1 h1
  cases m with
  | zero => exact .inl rfl
  | succ m =>
   unfold q8s
   have e0 : isT (tx [118, 97, 114]) (t1 ++ t2 ++ rest) = true := by
    rw [he]
    show isT _ (th :: (tr1 ++ t2 ++ rest)) = true
    rw [q1j hh]; rfl
   rw [e0, if_pos rfl, if_neg (by simp at hl; omega), List.append_assoc]
   refine Rd.bind (j7l (hk v List.mem_cons_self) t1 (t2 ++ rest) h1) (Nat.le_refl _) (fun y hy => ?_)
   refine (x7t l (fun x hx => hk x (List.mem_cons_of_mem _ hx)) m (acc ++ [y]) t2 rest hr h2 (by simp at hl ⊢; omega)).mono (Nat.le_refl _) ?_
   rintro z ⟨q, rfl, hq⟩
   refine ⟨y :: q, by simp, ?_⟩
   rw [List.map_cons, List.map_cons, hq, hy]
theorem j5i (l : List Pm) : pmI l true = if l = [] then [] else (5, [44]) :: (0, [32]) :: pmI l false := by
 cases l with
 | nil => rfl
 | cons x l => rw [if_neg (by simp)]; rfl
theorem z7z : ∀ (l : List Pm), (∀ p ∈ l, q1p p.name = true /\ q1c p.type = true) -> ∀ (m : Nat) (acc : List Pm) (ts rest : List Tok) (tr : Tok), tkT tr = (5, [41]) -> Tk ts (pmI l false) -> acc.length + l.length <= 8 ->
  Rd 0 (z2p (tx [41]) q8p m acc (ts ++ tr :: rest)) (fun x => x = acc ++ l) (tr :: rest)
 | [], hk, m, acc, ts, rest, tr, htr, ht, hl => by
  obtain rfl := Tk.nil ht
  cases m with
  | zero => exact .inl rfl
  | succ m =>
   unfold z2p
   rw [List.nil_append, q1j htr, show (([41] : List UInt8) == [41] && ((5 : Int) == 2 || (5 : Int) == 5)) = true from rfl, if_pos rfl]
   exact Rd.ok (by simp)
 | x :: l, hk, m, acc, ts, rest, tr, htr, ht, hl => by
  have ht2 : Tk ts ((1, toL x.name) :: (5, [58]) :: (0, [32]) :: (2, tyT x.type) :: pmI l true) := ht
  obtain ⟨u1, r1, rfl, g1, k1⟩ := ht2.cons (by decide)
  obtain ⟨u2, r2, rfl, g2, k2⟩ := k1.cons (by decide)
  obtain ⟨u3, r3, rfl, g3, k3⟩ := k2.blank.cons (by decide)
  cases m with
  | zero => exact .inl rfl
  | succ m =>
   unfold z2p
   show Rd 0 (if isT (tx [41]) (u1 :: (u2 :: u3 :: (r3 ++ tr :: rest))) then _ else _) _ _
   rw [z5x g1]
   simp only [Bool.false_eq_true, if_false]
   refine Rd.bind (N := 0) (P := fun p => p = x) (t1 := r3 ++ tr :: rest) ?_ (Nat.le_refl _) ?_
   ·unfold q8p
    show Rd 0 (if (u1.kind = 1 /\ acc.length = 8) then _ else _) _ _
    rw [if_neg (by simp at hl; omega)]
    show Rd 0 (PM.bind _ _ (u1 :: u2 :: u3 :: (r3 ++ tr :: rest))) _ _
    refine z5y g1 (q3t g2 (.inr rfl) (q7x (hk x List.mem_cons_self).2 g3 (Rd.ok ?_)))
    rw [q5h g1]
   ·rintro x rfl
    by_cases hl0 : l = []
    ·subst hl0
     obtain rfl := Tk.nil k3
     rw [List.nil_append, q1j htr, show (([41] : List UInt8) == [41] && ((5 : Int) == 2 || (5 : Int) == 5)) = true from rfl, if_pos rfl]
     exact Rd.ok rfl
    ·rw [j5i, if_neg hl0] at k3
     obtain ⟨uc, t3, rfl, hc, h3⟩ := k3.cons (by decide)
     have h4 := h3.blank
     show Rd _ (if isT (tx [41]) (uc :: (t3 ++ tr :: rest)) then _ else _) _ _
     rw [q1j hc, show (([44] : List UInt8) == [41] && ((5 : Int) == 2 || (5 : Int) == 5)) = false from rfl]
     simp only [Bool.false_eq_true, if_false]
     refine q3t hc (.inr rfl) ?_
     have e1 : isT (tx [41]) (t3 ++ tr :: rest) = false := by
      cases l with
      | nil => exact absurd rfl hl0
      | cons z l =>
       have h5 : Tk t3 ((1, toL z.name) :: (5, [58]) :: (0, [32]) :: (2, tyT z.type) :: pmI l true) := h4
       obtain ⟨v1, q1, rfl, y1, _⟩ := h5.cons (by decide)
       exact z5x y1 _
     show Rd 0 (if isT (tx [41]) (t3 ++ tr :: rest) then _ else z2p (tx [41]) q8p m _ (t3 ++ tr :: rest)) _ _
     rw [e1]
     simp only [Bool.false_eq_true, if_false]
     refine (z7z l (fun x hx => hk x (List.mem_cons_of_mem _ hx)) m (acc ++ [x]) t3 rest tr htr h4 (by simp at hl ⊢; omega)).mono (Nat.le_refl _) ?_
     rintro z rfl
     simp
theorem j5j {R : Prop} {f : Fc} (h : FOK R f) (n : Nat) (ts rest : List Tok) (ht : Tk ts (fcI f)) : Rd (nsF f) (q3i n (q2w q1v n) 0 (ts ++ rest)) (fun x => q8o x = q8o f) rest := by
 have ht2 : Tk ts ((2, [102, 110]) :: (0, [32]) :: (1, toL f.name) :: (5, [40]) :: (pmI f.params false ++ (5, [41]) :: ((if f.type = 0 then [] else [(5, [58]), (0, [32]), (2, tyT f.type)]) ++ z5t (z0g f.body) 0 ++ [(0, [10])]))) := ht
 obtain ⟨u1, r1, rfl, g1, k1⟩ := ht2.cons (by decide)
 obtain ⟨u2, r2, rfl, g2, k2⟩ := k1.blank.cons (by decide)
 obtain ⟨u3, r3, rfl, g3, k3⟩ := k2.cons (by decide)
 obtain ⟨t4, t5, rfl, k4, k5⟩ := k3.app
 obtain ⟨u4, r4, rfl, g4, k6⟩ := k5.cons (by decide)
 obtain ⟨t6, t7, rfl, k7, k8⟩ := k6.app
 obtain rfl := Tk.nil k8.blank
 obtain ⟨t8, t9, rfl, k9, k10⟩ := k7.app
 have kb : Tk t9 ((0, [32]) :: (5, [123]) :: (0, [10]) :: (z9y (0 + 1) (z0g f.body) ++ [(0, q2y 0), (5, [125])])) := k10
 obtain ⟨u5, r5, hu5, g5, _⟩ := kb.blank.cons (by decide)
 have e1 : u1 :: u2 :: u3 :: (t4 ++ u4 :: (t8 ++ t9 ++ [])) ++ rest = u1 :: u2 :: u3 :: (t4 ++ u4 :: (t8 ++ (t9 ++ rest))) := by simp
 rw [e1]
 unfold q3i
 refine q3t g1 (.inl rfl) (z5y g2 (q3t g3 (.inr rfl) ?_))
 refine Rd.bind (N := 0) (z7z f.params h.ps n [] t4 (t8 ++ (t9 ++ rest)) u4 g4 k4 (by have := h.pl; simpa using this)) (Nat.zero_le _) ?_
 rintro ps rfl
 refine q3t g4 (.inr rfl) ?_
 have hb := z2m h.bs (fun x hx => j7i (h.bs x hx)) h.bl n 0 0 t9 rest k10
 have en : nsF f = 0 + (1 + (f.body.map nsS).foldr max 0) := by unfold nsF; rw [z0k]; omega
 rw [en]
 have fin : ∀ ty, ty = f.type -> Rd (0 + (1 + (f.body.map nsS).foldr max 0)) (((q2w q1v n).block 0).bind (fun l => .ret (⟨u2.text, [] ++ f.params, ty, l, u2.at_, []⟩ : Fc)) (t9 ++ rest)) (fun x => q8o x = q8o f) rest := by
  rintro _ rfl
  refine Rd.bind hb (Nat.le_refl _) (fun l hl => Rd.ok ?_)
  show Fc.mk u2.text ([] ++ f.params) f.type (q2h l) 0 [] = ⟨f.name, f.params, f.type, q2h f.body, 0, []⟩
  rw [q5h g2, hl]; rfl
 by_cases h0 : f.type = 0
 ·rw [if_pos h0] at k9
  obtain rfl := Tk.nil k9
  rw [List.nil_append]
  have e2 : t9 ++ rest = u5 :: (r5 ++ rest) := by rw [hu5]; rfl
  have f0 := fin 0 h0.symm
  rw [e2] at f0 ⊢
  refine z3q g5 (by decide) [58] ?_
  rw [if_neg (by decide)]
  exact f0
 ·rw [if_neg h0] at k9
  obtain ⟨w1, q1, rfl, y1, z1⟩ := k9.cons (by decide)
  obtain ⟨w2, q2, rfl, y2, z2⟩ := z1.blank.cons (by decide)
  obtain rfl := z2.nil
  show Rd _ (PM.bind _ _ (w1 :: (w2 :: (t9 ++ rest)))) _ _
  refine z3q y1 (by decide) [58] ?_
  rw [if_pos rfl]
  exact q7x (h.ty.resolve_left h0) y2 (fin _ rfl)
theorem x1z (f : Fc) (ts : List Tok) (ht : Tk ts (fcI f)) : ∃ t r, ts = t :: r /\ tkT t = (2, [102, 110]) := by
 have ht2 : ∃ q, Tk ts ((2, [102, 110]) :: q) := ⟨_, ht⟩
 obtain ⟨q, ht2⟩ := ht2
 obtain ⟨u1, r1, e, g1, k1⟩ := ht2.cons (by decide)
 exact ⟨u1, r1, e, g1⟩
theorem x2a {R : Prop} : ∀ (l : List Fc), (∀ f ∈ l, FOK R f) -> ∀ (n m : Nat) (acc : List Fc) (ts rest : List Tok), isT (tx [102, 110]) rest = false -> Tk ts (l.map fcI).flatten -> acc.length + l.length <= 64 ->
  Rd ((l.map nsF).foldr max 0) (q6l n (q2w q1v n) m acc (ts ++ rest)) (fun x => ∃ y, x = acc ++ y /\ y.map q8o = l.map q8o) rest
 | [], hk, n, m, acc, ts, rest, hr, ht, hl => by
  obtain rfl := Tk.nil ht
  cases m with
  | zero => exact .inl rfl
  | succ m =>
   unfold q6l
   rw [List.nil_append, hr]
   exact Rd.ok ⟨[], by simp, rfl⟩
 | v :: l, hk, n, m, acc, ts, rest, hr, ht, hl => by
  have ht2 : Tk ts (fcI v ++ (l.map fcI).flatten) := ht
  obtain ⟨t1, t2, rfl, h1, h2⟩ := ht2.app
  obtain ⟨th, tr1, he, hh⟩ := x1z v t1 h1
  have en : ((v :: l).map nsF).foldr max 0 = max (nsF v) ((l.map nsF).foldr max 0) := rfl
  rw [en]
  cases m with
  | zero => exact .inl rfl
  | succ m =>
   unfold q6l
   have e0 : isT (tx [102, 110]) (t1 ++ t2 ++ rest) = true := by
    rw [he]
    show isT _ (th :: (tr1 ++ t2 ++ rest)) = true
    rw [q1j hh]; rfl
   rw [e0, if_pos rfl, if_neg (by simp at hl; omega), List.append_assoc]
   refine Rd.bind (j5j (hk v List.mem_cons_self) n t1 (t2 ++ rest) h1) (by omega) (fun y hy => ?_)
   refine (x2a l (fun x hx => hk x (List.mem_cons_of_mem _ hx)) n m (acc ++ [y]) t2 rest hr h2 (by simp at hl ⊢; omega)).mono (by omega) ?_
   rintro z ⟨q, rfl, hq⟩
   refine ⟨y :: q, by simp, ?_⟩
   rw [List.map_cons, List.map_cons, hq, hy]
theorem j7m {R : Prop} {m : Md} (h : MOK R m) (n : Nat) (ts : List Tok) (te : Tok) (hte : te.kind = 6) (hx : te.text = ⟨#[]⟩) (ht : Tk ts (mdI m)) : Rd (nsM m) (x4g q1v n (ts ++ [te])) (fun x => z7x x = z7x m) [te] := by
 have hE : tkT te = (6, []) := by show (te.kind, toL te.text) = _; rw [hte, hx]; rfl
 obtain ⟨t1, t2, rfl, h1, h2⟩ := Tk.app ht
 unfold x4g
 rw [List.append_assoc]
 have hr : isT (tx [118, 97, 114]) (t2 ++ [te]) = false := by
  cases hf : m.funcs with
  | nil =>
   rw [hf] at h2
   obtain rfl := Tk.nil h2
   rw [List.nil_append, q1j hE]; rfl
  | cons f l =>
   rw [hf] at h2
   have h3 : Tk t2 (fcI f ++ (l.map fcI).flatten) := h2
   obtain ⟨u1, u2, rfl, g1, g2⟩ := h3.app
   obtain ⟨th, tr1, rfl, hh⟩ := x1z f u1 g1
   show isT _ (th :: (tr1 ++ u2 ++ [te])) = false
   rw [q1j hh]; rfl
 refine Rd.bind (x7t m.vars h.vs n [] t1 (t2 ++ [te]) hr h1 (by have := h.vl; simpa using this)) (Nat.zero_le _) ?_
 rintro vs ⟨vs, rfl, hv⟩
 refine Rd.bind (x2a m.funcs h.fs n n [] t2 [te] (by rw [q1j hE]; rfl) h2 (by have := h.fl; simpa using this)) (Nat.le_refl _) ?_
 rintro fs ⟨fs, rfl, hf⟩
 show Rd _ (if te.kind = 6 then _ else _) _ _
 rw [if_pos hte]
 refine Rd.ok ?_
 show Md.mk (vs.map z0m) (fs.map q8o) = _
 rw [hv, hf]; rfl
theorem z8a {num : Tok -> Int} {fx : List UInt8 -> Bool} {l : List UInt8} {ts t : List Tok} {m : Md} (h : q3j fx l = .ok ts) (h2 : x4g num 60000 ts = some (.ok (m, t))) : q7h num fx l = (m, (0, 0)) := by
 unfold q7h
 simp only [h, h2]
theorem z8b {num : Tok -> Int} {fx : List UInt8 -> Bool} {l : List UInt8} {ts : List Tok} {f : Flt} (h : q3j fx l = .ok ts) (h2 : x4g num 60000 ts = some (.error f)) : q7h num fx l = (zMd, f) := by
 unfold q7h
 simp only [h, h2]
theorem x3p {R : Prop} {m : Md} (h : MOK R m) (hw : q1w (q5l m) = false) :
  (∃ x, q2p (q5l m) = (x, (0, 0)) /\ z7x x = z7x m) \/ (30 < nsM m /\ (q2p (q5l m)).2.1 = 91) := by
 obtain ⟨ts, h1, h2⟩ := j1j h hw
 have hl : (q5l m).length <= 16384 := by unfold q1w at hw; simpa using hw
 have hk := q4g (q5l m)
 rw [h1] at hk
 obtain ⟨r, hr⟩ := z2x q1v (ts ++ [⟨6, ⟨#[]⟩, (q5l m).length⟩]) hk.2.1
 have hrd := j7m h 60000 ts ⟨6, ⟨#[]⟩, (q5l m).length⟩ rfl rfl h2
 rcases hrd with q | ⟨x, q1, q2⟩ | ⟨q1, a, q2⟩
 ·rw [q] at hr; cases hr
 ·exact .inl ⟨x, z8a h1 q1, q2⟩
 ·exact .inr ⟨q1, by show (q7h q1v fxB (q5l m)).2.1 = 91; rw [z8b h1 q2]⟩
def brB (w : List UInt8) : Bool := w == [40] || w == [91] || w == [123]
def wk (a b : Nat) (t : Tok) : Nat := a + if brB (toL t.text) = true then b else 0
def mu (a b : Nat) : List Tok -> Nat
 | [] => 0
 | t :: r => wk a b t + mu a b r
theorem x3q (a b : Nat) (t : Tok) : a <= wk a b t := Nat.le_add_right _ _
theorem x3r {t : Tok} {w : List UInt8} (h : toL t.text = w) (hw : brB w = true) (a b : Nat) : wk a b t = a + b := by unfold wk; rw [h, if_pos hw]
theorem x7u (ts : List Tok) : mu 1 0 ts = ts.length := by
 induction ts with
 | nil => rfl
 | cons t r ih =>
  show wk 1 0 t + mu 1 0 r = r.length + 1
  rw [ih]
  unfold wk
  split <;> omega
structure Tg (t : Tok) : Prop where
 ok : z1o t
 nm : t.kind = 1 -> q1p t.text = true
structure Al (ts : List Tok) : Prop where
 tg : ∀ t ∈ ts, Tg t
 le : ts.length <= 16385
theorem Al.tail {t : Tok} {r : List Tok} (h : Al (t :: r)) : Al r := ⟨fun x hx => h.tg x (List.mem_cons_of_mem _ hx), by have := h.le; simp at this; omega⟩
theorem Al.hd {t : Tok} {r : List Tok} (h : Al (t :: r)) : Tg t := h.tg t List.mem_cons_self
def Spc {α : Type} (m : Option (Except Flt (α × List Tok))) (P : α -> List Tok -> Prop) : Prop := ∀ x ts', m = some (.ok (x, ts')) -> P x ts'
theorem Spc.ok {α : Type} {x : α} {ts : List Tok} {P : α -> List Tok -> Prop} (h : P x ts) : Spc (some (.ok (x, ts))) P := fun y t e => by
 injection e with e; injection e with e; injection e with e1 e2; rw [<- e1, <- e2]; exact h
theorem Spc.er {α : Type} {f : Flt} {P : α -> List Tok -> Prop} : Spc (some (.error f)) P := fun y t e => by cases e
theorem Spc.no {α : Type} {P : α -> List Tok -> Prop} : Spc none P := fun y t e => by cases e
theorem Spc.fail {α : Type} {c : Int} {ts : List Tok} {P : α -> List Tok -> Prop} : Spc (PM.fail c ts) P := Spc.er
theorem Spc.bind {α β : Type} {m : PM α} {f : α -> PM β} {ts : List Tok} {P : α -> List Tok -> Prop} {Q : β -> List Tok -> Prop} (h : Spc (m ts) P) (hf : ∀ x t1, P x t1 -> Spc (f x t1) Q) : Spc (m.bind f ts) Q := by
 unfold PM.bind
 cases hm : m ts with
 | none => exact Spc.no
 | some r =>
  cases r with
  | error e => exact Spc.er
  | ok p => exact hf p.1 p.2 (h p.1 p.2 (by rw [hm]))
theorem Spc.mono {α : Type} {m : Option (Except Flt (α × List Tok))} {P Q : α -> List Tok -> Prop} (h : Spc m P) (hq : ∀ x t, P x t -> Q x t) : Spc m Q := fun x t e => hq x t (h x t e)
theorem q3l {w : List UInt8} {ts : List Tok} (h : isT (tx w) ts = true) : ∃ t r, ts = t :: r /\ toL t.text = w /\ q0w ts = r := by
 have hk := x0z h
 cases ts with
 | nil => exact absurd hk (by decide)
 | cons t r =>
  refine ⟨t, r, rfl, ?_, ?_⟩
  ·unfold isT at h
   rw [Bool.and_eq_true, beq_iff_eq] at h
   have h1 := h.1
   rw [x7l, z3k] at h1
   exact h1
  ·unfold q0w
   have e : (t :: r).headD q2m = t := rfl
   rw [e] at hk ⊢
   rw [if_neg (by omega)]; rfl
theorem q4t {ts : List Tok} {k : Int} (h : (ts.headD q2m).kind = k) (hk : k ≠ 0 /\ k ≠ 6) : ∃ t r, ts = t :: r /\ t.kind = k /\ q0w ts = r := by
 cases ts with
 | nil => exact absurd h.symm hk.1
 | cons t r =>
  refine ⟨t, r, rfl, h, ?_⟩
  unfold q0w
  rw [h, if_neg hk.2]; rfl
theorem q3a (w : List UInt8) (ts : List Tok) : Spc (q1y (tx w) ts) (fun _ t1 => ∃ t, ts = t :: t1 /\ toL t.text = w) := by
 unfold q1y
 by_cases h : isT (tx w) ts = true
 ·obtain ⟨t, r, h1, h2, h3⟩ := q3l h
  rw [if_pos h, h3]
  exact Spc.ok ⟨t, h1, h2⟩
 ·rw [if_neg h]; exact Spc.fail
theorem z4p (w : List UInt8) (ts : List Tok) : Spc (z4a (tx w) ts) (fun b t1 => (b = true /\ ∃ t, ts = t :: t1 /\ toL t.text = w) \/ (b = false /\ t1 = ts)) := by
 unfold z4a
 by_cases h : isT (tx w) ts = true
 ·obtain ⟨t, r, h1, h2, h3⟩ := q3l h
  rw [if_pos h, h3]
  exact Spc.ok (.inl ⟨rfl, t, h1, h2⟩)
 ·rw [if_neg h]; exact Spc.ok (.inr ⟨rfl, rfl⟩)
theorem z0z (ts : List Tok) : Spc (q6a ts) (fun t t1 => ts = t :: t1 /\ t.kind = 1) := by
 unfold q6a x4e
 by_cases h : (ts.headD q2m).kind = 1
 ·rw [if_pos h]
  obtain ⟨t, r, h1, h2, h3⟩ := q4t h (by decide)
  rw [h3, h1]
  exact Spc.ok ⟨rfl, h2⟩
 ·rw [if_neg h]; exact Spc.fail
theorem q7z (ts : List Tok) : Spc (q2v ts) (fun ty t1 => q1c ty = true /\ ∃ t, ts = t :: t1) := by
 unfold q2v
 have key : ∀ (w : List UInt8) (n : Int), q1c n = true -> isT (tx w) ts = true -> Spc (some (.ok (n, q0w ts))) (fun ty t1 => q1c ty = true /\ ∃ t, ts = t :: t1) := by
  intro w n hn h
  obtain ⟨t, r, h1, h2, h3⟩ := q3l h
  rw [h3]
  exact Spc.ok ⟨hn, t, h1⟩
 split
 ·rename_i h; exact key _ 1 rfl h
 split
 ·rename_i h; exact key _ 2 rfl h
 split
 ·rename_i h; exact key _ 3 rfl h
 split
 ·rename_i h; exact key _ 4 rfl h
 ·exact Spc.fail
theorem z3r {α : Type} {lv : Nat} {read : Nat -> PM α} {ts : List Tok} {P : α -> List Tok -> Prop} (hl : lv <= 30) (h : lv < 30 -> Spc (read (lv + 1) ts) P) : Spc (q1x lv read ts) P := by
 unfold q1x
 by_cases h30 : lv = 30
 ·rw [if_pos h30]; exact Spc.fail
 ·rw [if_neg h30]; exact h (by omega)
theorem q8j {α : Type} {lv : Nat} {l r : List UInt8} {read : Nat -> PM α} {ts : List Tok} {P : α -> List Tok -> Prop} (hl : lv <= 30) (h : ∀ tl t0, ts = tl :: t0 -> lv < 30 -> Spc (read (lv + 1) t0) P) :
  Spc (q2n lv (tx l) read (tx r) ts) (fun x t1 => lv < 30 /\ ∃ tl t0 tr, ts = tl :: t0 /\ toL tl.text = l /\ P x (tr :: t1)) := by
 unfold q2n
 by_cases hc : isT (tx l) ts = true
 ·obtain ⟨t, r1, h1, h2, h3⟩ := q3l hc
  rw [if_pos hc]
  refine z3r hl (fun h30 => ?_)
  rw [h3]
  refine Spc.bind (h t r1 h1 h30) (fun x t1 hx => ?_)
  refine Spc.bind (q3a r t1) (fun _ t2 ⟨tr, h4, h5⟩ => Spc.ok ⟨h30, t, r1, tr, h1, h2, ?_⟩)
  rw [<- h4]; exact hx
 ·rw [if_neg hc]; exact Spc.fail
def pc (b : Nat) (least : Int) (e : Ex) : Nat := if q0v e < least then b else 0
def j8q : Ex := .mk 0 0 0 ⟨#[]⟩ [] 0 0 0
mutual
def csE (a b : Nat) : Ex -> Nat
 | .mk k op _ _ args _ _ _ => a + (if k = 6 \/ k = 7 then b else 0) + (if k = 8 then pc b 6 (args.headD j8q) else if k = 9 then pc b (q5b (q0u 9 op)) (args.headD j8q) + pc b (q0u 9 op + 1) (args.tail.headD j8q) else 0) + z3w a b args
def z3w (a b : Nat) : List Ex -> Nat
 | [] => 0
 | e :: l => csE a b e + z3w a b l
end
theorem j1l (a b : Nat) (l m : List Ex) : z3w a b (l ++ m) = z3w a b l + z3w a b m := by
 induction l with
 | nil => exact (Nat.zero_add _).symm
 | cons e l ih => show csE a b e + z3w a b (l ++ m) = csE a b e + z3w a b l + z3w a b m; rw [ih]; omega
structure RE (lv : Nat) (least : Int) (ts : List Tok) (e : Ex) (ts' : List Tok) : Prop where
 ok : EOK True e
 al : Al ts'
 cs : ∀ a b, csE a b e + pc b least e + mu a b ts' <= mu a b ts
 ns : lv + z1r least e <= 30
theorem x7v {b : Nat} {l l' : Int} (h : l <= l') (e : Ex) : pc b l e <= pc b l' e := by unfold pc; split <;> split <;> omega
theorem z3s (l : Int) (e : Ex) : z1r l e = pc 1 l e + nsE e := rfl
theorem RE.mono {lv : Nat} {l l' : Int} {ts ts' : List Tok} {e : Ex} (h : RE lv l' ts e ts') (hl : l <= l') : RE lv l ts e ts' :=
 ⟨h.ok, h.al, fun a b => by have := h.cs a b; have := x7v (b := b) hl e; omega, by have := h.ns; rw [z3s] at *; have := x7v (b := 1) hl e; omega⟩
theorem RE.at1 {lv : Nat} {ts ts' : List Tok} {e : Ex} (h : RE lv 1 ts e ts') : (∀ a b, csE a b e + mu a b ts' <= mu a b ts) /\ lv + nsE e <= 30 := by
 have h0 := q7w h.ok
 refine ⟨fun a b => ?_, ?_⟩
 ·have := h.cs a b; omega
 ·have := h.ns; rw [z3s] at this; omega
mutual
def csS (a b : Nat) : St -> Nat
 | .mk k _ _ exprs body els _ _ => a + z3w a b exprs + (if k = 3 then b else 0) + (if k = 4 \/ k = 5 then b else 0) + q9c a b body + (if els.length = 1 /\ (els.headD (.mk 0 ⟨#[]⟩ 0 [] [] [] 0 0)).kind = 4 \/ els.length = 0 then 0 else b) + q9c a b els
def q9c (a b : Nat) : List St -> Nat
 | [] => 0
 | s :: l => csS a b s + q9c a b l
end
theorem j1m (a b : Nat) (l m : List St) : q9c a b (l ++ m) = q9c a b l + q9c a b m := by
 induction l with
 | nil => exact (Nat.zero_add _).symm
 | cons e l ih => show csS a b e + q9c a b (l ++ m) = csS a b e + q9c a b l + q9c a b m; rw [ih]; omega
structure RS (lv : Nat) (ts : List Tok) (s : St) (ts' : List Tok) : Prop where
 ok : SOK True s
 al : Al ts'
 cs : ∀ a b, csS a b s + mu a b ts' <= mu a b ts
 ns : lv + nsS s <= 30
structure RB (lv : Nat) (ts : List Tok) (l : List St) (ts' : List Tok) : Prop where
 ok : ∀ s ∈ l, SOK True s
 ln : l.length <= 400
 al : Al ts'
 cs : ∀ a b, a + b + q9c a b l + mu a b ts' <= mu a b ts
 ns : lv + (1 + (z7w l).foldr max 0) <= 30
structure RI (R : q4e) : Prop where
 strong : ∀ ts l lv, Al ts -> lv <= 30 -> 1 <= l -> l <= 6 -> Spc (R.strong l lv ts) (RE lv l ts)
 one : ∀ ts lv, Al ts -> lv <= 30 -> Spc (R.one lv ts) (RE lv 6 ts)
 stmt : ∀ ts lv, Al ts -> lv <= 30 -> Spc (R.stmt lv ts) (RS lv ts)
 choice : ∀ ts lv, Al ts -> lv <= 30 -> Spc (R.choice lv ts) (fun s t1 => RS lv ts s t1 /\ s.kind = 4)
 block : ∀ ts lv, Al ts -> lv <= 30 -> Spc (R.block lv ts) (RB lv ts)
theorem q7d {R : q4e} (h : RI R) {ts : List Tok} {lv : Nat} (ha : Al ts) (hl : lv <= 30) : Spc (q3b R lv ts) (RE lv 1 ts) := h.strong ts 1 lv ha hl (by decide) (by decide)
structure RR (lv : Nat) (ts : List Tok) (l : List Ex) (ts' : List Tok) : Prop where
 ok : ∀ e ∈ l, EOK True e
 al : Al ts'
 cs : ∀ a b, z3w a b l + mu a b ts' <= mu a b ts
 ns : lv + (l.map nsE).foldr max 0 <= 30
theorem z1a (l : List Nat) (n : Nat) : (l ++ [n]).foldr max 0 = max (l.foldr max 0) n := by
 induction l with
 | nil => show max n 0 = max 0 n; omega
 | cons x l ih => show max x ((l ++ [n]).foldr max 0) = max (max x (l.foldr max 0)) n; rw [ih]; omega
theorem j2t {R : q4e} (h : RI R) {lv : Nat} (hl : lv <= 30) (ts : List Tok) : ∀ (m : Nat) (acc : List Ex) (t1 : List Tok), RR lv ts acc t1 -> Spc (z2p (tx [41]) (fun _ => q3b R lv) m acc t1) (RR lv ts)
 | 0, acc, t1, ha => Spc.no
 | m + 1, acc, t1, ha => by
  unfold z2p
  split
  ·exact Spc.ok ha
  ·refine Spc.bind (q7d h ha.al hl) (fun e t2 he => ?_)
   have h2 : ∀ t3, Al t3 -> (∀ a b, mu a b t3 <= mu a b t2) -> RR lv ts (acc ++ [e]) t3 := fun t3 h3 h4 => by
    refine ⟨fun x hx => ?_, h3, fun a b => ?_, ?_⟩
    ·rcases List.mem_append.1 hx with hx | hx
     ·exact ha.ok x hx
     ·rw [List.mem_singleton.1 hx]; exact he.ok
    ·rw [j1l]
     have h5 := ha.cs a b
     have h6 := (he.at1).1 a b
     have h7 := h4 a b
     show z3w a b acc + (csE a b e + 0) + mu a b t3 <= _
     omega
    ·rw [List.map_append, List.map_singleton, z1a]
     have h5 := ha.ns
     have h6 := he.at1.2
     omega
   split
   ·exact Spc.ok (h2 t2 he.al (fun a b => Nat.le_refl _))
   ·refine Spc.bind (q3a _ t2) (fun _ t3 ⟨t, h3, h4⟩ => ?_)
    split
    ·exact Spc.fail
    ·have hal := he.al
     rw [h3] at hal
     exact j2t h hl ts m _ t3 (h2 t3 hal.tail (fun a b => by rw [h3]; exact Nat.le_add_left _ _))
theorem j7n (e : Ex) : 1 <= csE 1 0 e := by cases e; show 1 <= 1 + _ + _ + _; omega
theorem j5k (l : List Ex) : l.length <= z3w 1 0 l := by
 induction l with
 | nil => exact Nat.le_refl _
 | cons e l ih => show l.length + 1 <= csE 1 0 e + z3w 1 0 l; have := j7n e; omega
theorem x7w {R : q4e} (h : RI R) {n lv : Nat} (hl : lv <= 30) {t : Tok} {ts : List Tok} (hn : q1p t.text = true) (ha : Al (t :: ts)) : Spc (q8k n R lv t ts) (fun e t1 => RE lv 6 (t :: ts) e t1 /\ e.kind = 7) := by
 unfold q8k
 refine Spc.bind (q8j (P := RR (lv + 1) ts.tail) hl (fun tl t0 e h30 => ?_)) (fun l t1 ⟨h30, tl, t0, tr, e1, e2, h1⟩ => Spc.ok ?_)
 ·have hal := ha.tail
  rw [e] at hal
  refine j2t h h30 ts.tail n [] t0 ⟨(fun e he => by cases he), hal.tail, fun a b => ?_, by show lv + 1 + 0 <= 30; omega⟩
  rw [e]; show 0 + mu a b t0 <= mu a b t0; omega
 ·rw [e1] at h1 ha
  have hlen : l.length <= 16384 := by
   have h3 := h1.cs 1 0
   have h4 := j5k l
   have h5 := ha.le
   rw [x7u, x7u] at h3
   simp only [List.tail_cons] at h3
   simp at h5
   omega
  refine ⟨⟨.call hn hlen h1.ok (fun _ => ⟨rfl, rfl⟩), h1.al.tail, fun a b => ?_, ?_⟩, rfl⟩
  ·have h3 := h1.cs a b
   have h4 := x3r e2 (by decide) a b
   have h5 := x3q a b t
   show a + b + 0 + z3w a b l + 0 + mu a b t1 <= wk a b t + mu a b ts
   rw [e1]
   have h6 : mu a b (tr :: t1) = wk a b tr + mu a b t1 := rfl
   have h7 : mu a b (tl :: t0) = wk a b tl + mu a b t0 := rfl
   simp only [List.tail_cons] at h3
   omega
  ·show lv + (0 + (1 + (x0d l).foldr max 0)) <= 30
   rw [z5w]
   have := h1.ns
   omega
theorem x2b {R : q4e} (h : RI R) {lv : Nat} (hl : lv <= 30) {ts : List Tok} (ha : Al ts) : Spc (q4m R lv ts) (fun l t1 => ∃ x, l = [x] /\ EOK True x /\ Al t1 /\ (∀ a b, b + csE a b x + mu a b t1 <= mu a b ts) /\ lv + (1 + nsE x) <= 30) := by
 unfold q4m
 refine (q8j (P := fun l t1 => ∃ x, l = [x] /\ RE (lv + 1) 1 ts.tail x t1) hl (fun tl t0 e h30 => ?_)).mono (fun l t1 ⟨h30, tl, t0, tr, e1, e2, x, h1, h2⟩ => ?_)
 ·rw [e] at ha ⊢
  exact Spc.bind (q7d h ha.tail h30) (fun x t1 hx => Spc.ok ⟨x, rfl, hx⟩)
 ·refine ⟨x, h1, h2.ok, h2.al.tail, fun a b => ?_, by have := h2.at1.2; omega⟩
  have h3 := h2.at1.1 a b
  have h4 := x3r e2 (by decide) a b
  rw [e1] at h3 ⊢
  have h6 : mu a b (tr :: t1) = wk a b tr + mu a b t1 := rfl
  have h7 : mu a b (tl :: t0) = wk a b tl + mu a b t0 := rfl
  simp only [List.tail_cons] at h3
  omega
theorem z1b {lv : Nat} {t : Tok} {r : List Tok} {e : Ex} (hl : lv <= 30) (ha : Al (t :: r)) (hk : EOK True e) (hs : q0v e = 6) (hc : ∀ a b, csE a b e = a) (hn : nsE e = 0) : RE lv 6 (t :: r) e r := by
 have hp : ∀ b, pc b 6 e = 0 := fun b => by unfold pc; rw [hs]; rfl
 refine ⟨hk, ha.tail, fun a b => ?_, ?_⟩
 ·rw [hc, hp]
  have := x3q a b t
  show a + 0 + mu a b r <= wk a b t + mu a b r
  omega
 ·rw [z3s, hp, hn]; omega
theorem x7x {t : Tok} (h : Tg t) (hk : t.kind = 3 \/ t.kind = 4) : ∃ n : Nat, q1v t = n /\ n < 9223372036854775808 := by
 rcases hk with hk | hk
 ·have h1 := (h.ok.2.1 hk).2.2
  refine ⟨decU t.text.data.toList, ?_, h1⟩
  unfold q1v
  rw [hk, if_neg (by decide)]
 ·have h1 := (h.ok.2.2 hk).2
  unfold q1v
  rw [if_pos hk]
  revert h1
  unfold z8g
  dsimp only
  split
  ·intro h1; cases h1
  ·split
   ·intro h1; cases h1
   ·split
    ·intro h1; cases h1
    ·rename_i h3 h4 h5
     intro _
     refine ⟨_, rfl, ?_⟩
     have h6 : decU (t.text.data.toList.takeWhile (· != 46)) <= 2147483647 := by omega
     have h7 : ∀ c ∈ t.text.data.toList.takeWhile (· != 46) ++ (t.text.data.toList.dropWhile (· != 46)).tail, 48 <= c.toNat /\ c.toNat <= 57 := by
      intro c hc
      have h8 : (t.text.data.toList.takeWhile (· != 46) ++ (t.text.data.toList.dropWhile (· != 46)).tail).all (fun c => decide (48 <= c.toNat) && decide (c.toNat <= 57)) = true := by simpa using h4
      have h9 := List.all_eq_true.1 h8 c hc
      simpa using h9
     obtain ⟨k1, k2⟩ := z3g 32 (decU (t.text.data.toList.takeWhile (· != 46))) (((t.text.data.toList.dropWhile (· != 46)).tail).map (fun c => c.toNat - 48)) (fun d hd => by
      obtain ⟨c, hc, rfl⟩ := List.mem_map.1 hd
      have := h7 c (List.mem_append_right _ hc)
      omega)
     have k3 := z9x (((t.text.data.toList.dropWhile (· != 46)).tail).map (fun c => c.toNat - 48)) (fun d hd => by
      obtain ⟨c, hc, rfl⟩ := List.mem_map.1 hd
      have := h7 c (List.mem_append_right _ hc)
      omega)
     revert k1 k3
     generalize q6k 32 (decU (t.text.data.toList.takeWhile (· != 46))) (((t.text.data.toList.dropWhile (· != 46)).tail).map (fun c => c.toNat - 48)) = f
     generalize z1l (((t.text.data.toList.dropWhile (· != 46)).tail).map (fun c => c.toNat - 48)) = v
     generalize (((t.text.data.toList.dropWhile (· != 46)).tail).map (fun c => c.toNat - 48)).length = len
     generalize decU (t.text.data.toList.takeWhile (· != 46)) = w at h6
     have hp : 0 < 10 ^ len := Nat.pow_pos (by decide)
     generalize 10 ^ len = P at hp
     intro k1 k3
     rw [e32] at k1
     have k4 : w * P + v < (w + 1) * P := by rw [Nat.add_mul, Nat.one_mul]; omega
     have k5 : f * P < 4294967296 * ((w + 1) * P) := Nat.lt_of_le_of_lt k1 (Nat.mul_lt_mul_of_pos_left k4 (by decide))
     rw [<- Nat.mul_assoc] at k5
     have k6 := Nat.lt_of_mul_lt_mul_right k5
     exact Nat.lt_of_lt_of_le k6 (Nat.le_trans (Nat.mul_le_mul_left _ (show w + 1 <= 2147483648 by omega)) (by decide))
theorem j5l {R : q4e} (h : RI R) {n lv : Nat} (hl : lv <= 30) {ts : List Tok} (ha : Al ts) : Spc (z0r q1v n R lv ts) (RE lv 6 ts) := by
 unfold z0r
 dsimp only
 split
 ·rename_i hk
  obtain ⟨t, r, rfl, h2, h3⟩ := q4t hk (by decide)
  obtain ⟨m, e1, e2⟩ := x7x ha.hd (.inl h2)
  rw [h3]
  show Spc (some (.ok (Ex.mk 1 0 (q1v t) _ _ _ _ _, r))) _
  rw [e1]
  exact Spc.ok (z1b hl ha (.int e2 (fun _ => ⟨rfl, rfl⟩)) rfl (fun a b => rfl) rfl)
 split
 ·rename_i hk
  obtain ⟨t, r, rfl, h2, h3⟩ := q4t hk (by decide)
  obtain ⟨m, e1, e2⟩ := x7x ha.hd (.inr h2)
  rw [h3]
  show Spc (some (.ok (Ex.mk 2 0 (q1v t) _ _ _ _ _, r))) _
  rw [e1]
  exact Spc.ok (z1b hl ha (.fix e2 (fun _ => ⟨rfl, rfl⟩)) rfl (fun a b => rfl) rfl)
 split
 ·rename_i hk
  obtain ⟨t, r, rfl, h2, h3⟩ := q3l hk
  rw [h3]
  exact Spc.ok (z1b hl ha (.bool (.inr rfl) (fun _ => ⟨rfl, rfl⟩)) rfl (fun a b => rfl) rfl)
 split
 ·rename_i hk
  obtain ⟨t, r, rfl, h2, h3⟩ := q3l hk
  rw [h3]
  exact Spc.ok (z1b hl ha (.bool (.inl rfl) (fun _ => ⟨rfl, rfl⟩)) rfl (fun a b => rfl) rfl)
 split
 ·rename_i hk
  obtain ⟨t, r, rfl, h2, h3⟩ := q3l hk
  rw [h3]
  exact Spc.ok (z1b hl ha (.null (fun _ => ⟨rfl, rfl⟩)) rfl (fun a b => rfl) rfl)
 split
 ·refine (q8j (P := RE (lv + 1) 1 ts.tail) hl (fun tl t0 e h30 => ?_)).mono (fun x t1 ⟨h30, tl, t0, tr, e1, e2, h1⟩ => ?_)
  ·rw [e] at ha ⊢
   exact q7d h ha.tail h30
  ·refine ⟨h1.ok, h1.al.tail, fun a b => ?_, ?_⟩
   ·have h3 := h1.at1.1 a b
    have h4 := x3r e2 (by decide) a b
    rw [e1] at h3 ⊢
    have h6 : mu a b (tr :: t1) = wk a b tr + mu a b t1 := rfl
    have h7 : mu a b (tl :: t0) = wk a b tl + mu a b t0 := rfl
    have h8 : pc b 6 x <= b := by unfold pc; split <;> omega
    simp only [List.tail_cons] at h3
    omega
   ·have h3 := h1.at1.2
    have h8 : pc 1 6 x <= 1 := by unfold pc; split <;> omega
    rw [z3s]; omega
 refine Spc.bind (z0z ts) (fun t t1 ⟨e1, hk⟩ => ?_)
 subst e1
 have hn := ha.hd.nm hk
 split
 ·exact (x7w h hl hn ha).mono (fun x t2 hx => hx.1)
 split
 ·refine Spc.bind (x2b h hl ha.tail) (fun l t2 ⟨x, e2, h1, h2, h3, h4⟩ => Spc.ok ?_)
  subst e2
  refine ⟨.index hn h1 (fun _ => ⟨rfl, rfl⟩), h2, fun a b => ?_, ?_⟩
  ·have h5 := h3 a b
   have h6 := x3q a b t
   show a + b + 0 + (csE a b x + 0) + 0 + mu a b t2 <= wk a b t + mu a b t1
   omega
  ·show lv + (0 + (1 + max (nsE x) 0)) <= 30
   omega
 ·exact Spc.ok (z1b hl ha (.name hn (fun _ => ⟨rfl, rfl⟩)) rfl (fun a b => rfl) rfl)
theorem j7o {R : q4e} (h : RI R) {n lv : Nat} (hl : lv <= 30) {ts : List Tok} (ha : Al ts) : Spc (x4f q1v n R lv ts) (RE lv 6 ts) := by
 have key : ∀ (o m : Int), o = 14 \/ o = 15 -> ∀ w, isT (tx w) ts = true -> Spc (q1x lv (fun lv ts => (R.one lv).bind (fun e => .ret (.mk 8 o 0 ⟨#[]⟩ [e] m 0 0)) (q0w ts)) ts) (RE lv 6 ts) := by
  intro o m ho w hw
  obtain ⟨t, r, rfl, h2, h3⟩ := q3l hw
  refine z3r hl (fun h30 => ?_)
  try dsimp only
  rw [h3]
  refine Spc.bind (h.one r (lv + 1) ha.tail h30) (fun e t1 he => Spc.ok ?_)
  refine ⟨.one ho he.ok (fun _ => ⟨rfl, rfl⟩), he.al, fun a b => ?_, ?_⟩
  ·have h5 := he.cs a b
   have h6 := x3q a b t
   show a + 0 + pc b 6 e + (csE a b e + 0) + 0 + mu a b t1 <= wk a b t + mu a b r
   omega
  ·have := he.ns
   show lv + (0 + (1 + z1r 6 e)) <= 30
   omega
 unfold x4f
 split
 ·rename_i hc; exact key 15 _ (.inr rfl) _ hc
 split
 ·rename_i hc; exact key 14 _ (.inl rfl) _ hc
 ·exact j5l h hl ha
theorem j5m (s : ByteArray) (h : 1 <= (q4y s).2) : 1 <= (q4y s).1 /\ (q4y s).1 <= 13 /\ (q4y s).2 = q0u 9 (q4y s).1 := by
 have hall : ∀ p ∈ x2k, 1 <= p.2.1 /\ p.2.1 <= 13 /\ p.2.2 = q0u 9 p.2.1 := by decide
 unfold q4y at h ⊢
 split
 ·rename_i p hp
  exact hall p (List.mem_of_find?_eq_some hp)
 ·rename_i hp
  rw [hp] at h
  exact absurd h (by decide)
theorem x7y {R : q4e} (h : RI R) {lv : Nat} (hl : lv <= 30) {least : Int} (h1 : 1 <= least) (ts : List Tok) : ∀ (k : Nat) (most : Int) (e : Ex) (t1 : List Tok), most <= 5 -> RE lv least ts e t1 -> (∀ s, least <= s -> s <= most -> RE lv (q5b s) ts e t1) -> Spc (q2r R least lv k most e t1) (RE lv least ts)
 | 0, _, _, _, _, _, _ => Spc.no
 | k + 1, most, e, t1, hm, he, hs => by
  unfold q2r
  dsimp only
  split
  ·exact Spc.ok he
  ·rename_i hc
   obtain ⟨s0, hs0⟩ : ∃ s, s = (q4y (t1.headD q2m).text).2 := ⟨_, rfl⟩
   obtain ⟨o, ho⟩ : ∃ s, s = (q4y (t1.headD q2m).text).1 := ⟨_, rfl⟩
   have hb := j5m (t1.headD q2m).text
   rw [<- hs0, <- ho] at hb
   rw [<- hs0] at hc ⊢
   rw [<- ho]
   have hk5 : (t1.headD q2m).kind = 5 := Classical.byContradiction fun q => hc (.inl q)
   have hlo : least <= s0 := by omega
   have hhi : s0 <= most := by omega
   obtain ⟨b1, b2, b3⟩ := hb (by omega)
   obtain ⟨t, r, rfl, h2, h3⟩ := q4t hk5 (by decide)
   rw [h3]
   have hl0 := hs s0 hlo hhi
   refine Spc.bind (h.strong r (s0 + 1) lv he.al.tail hl (by omega) (by omega)) (fun y t2 hy => ?_)
   have hse : q0v (.mk 9 o 0 ⟨#[]⟩ [e, y] ((t :: r).headD q2m).at_ 0 0) = s0 := b3.symm
   have main : ∀ l', l' <= s0 -> RE lv l' ts (.mk 9 o 0 ⟨#[]⟩ [e, y] ((t :: r).headD q2m).at_ 0 0) t2 := by
    intro l' hl'
    have hp : ∀ b, pc b l' (.mk 9 o 0 ⟨#[]⟩ [e, y] ((t :: r).headD q2m).at_ 0 0) = 0 := fun b => by unfold pc; rw [hse, if_neg (by omega)]
    refine ⟨.both b1 b2 he.ok hy.ok (fun _ => ⟨rfl, rfl⟩), hy.al, fun a b => ?_, ?_⟩
    ·rw [hp]
     have q1 := hl0.cs a b
     have q2 := hy.cs a b
     have q3 := x3q a b t
     have q4 : mu a b (t :: r) = wk a b t + mu a b r := rfl
     show a + 0 + (pc b (q5b (q0u 9 o)) e + pc b (q0u 9 o + 1) y) + (csE a b e + (csE a b y + 0)) + 0 + mu a b t2 <= mu a b ts
     rw [<- b3]
     omega
    ·rw [z3s, hp]
     have q1 := hl0.ns
     have q2 := hy.ns
     show lv + (0 + max (z1r (q5b (q0u 9 o)) e) (z1r (q0u 9 o + 1) y)) <= 30
     rw [<- b3]
     omega
   refine x7y h hl h1 ts k _ _ t2 ?_ (main least hlo) (fun s q1 q2 => main (q5b s) ?_)
   ·split <;> omega
   ·unfold q5b
    revert q2
    split <;> split <;> omega
theorem j1n {s : Int} (h : s <= 5) : q5b s <= 6 := by unfold q5b; split <;> omega
theorem x7z {R : q4e} (h : RI R) {n lv : Nat} {least : Int} (hl : lv <= 30) (h1 : 1 <= least) (h6 : least <= 6) {ts : List Tok} (ha : Al ts) : Spc (q8r n R least lv ts) (RE lv least ts) := by
 unfold q8r
 refine Spc.bind (h.one ts lv ha hl) (fun e t1 he => ?_)
 exact x7y h hl h1 ts n 5 e t1 (by decide) (he.mono h6) (fun s q1 q2 => he.mono (j1n q2))
theorem z6a (a b : Nat) (t : Tok) (r : List Tok) : mu a b (t :: r) = wk a b t + mu a b r := rfl
theorem q1d (a b : Nat) (t : Tok) (r : List Tok) : a + mu a b r <= mu a b (t :: r) := by
 have := x3q a b t
 rw [z6a]; omega
structure RSs (lv : Nat) (ts : List Tok) (l : List St) (ts' : List Tok) : Prop where
 ok : ∀ s ∈ l, SOK True s
 ln : l.length <= 400
 al : Al ts'
 cs : ∀ a b, q9c a b l + mu a b ts' <= mu a b ts
 ns : lv + (l.map nsS).foldr max 0 <= 30
theorem x2c {R : q4e} (h : RI R) {lv : Nat} (hl : lv <= 30) (ts : List Tok) : ∀ (m : Nat) (acc : List St) (t1 : List Tok), RSs lv ts acc t1 -> Spc (q5i R lv m acc t1) (RSs lv ts)
 | 0, acc, t1, ha => Spc.no
 | m + 1, acc, t1, ha => by
  unfold q5i
  split
  ·split
   ·exact Spc.fail
   ·rename_i h400
    refine Spc.bind (h.stmt t1 lv ha.al hl) (fun s t2 hs => x2c h hl ts m _ t2 ⟨fun x hx => ?_, ?_, hs.al, fun a b => ?_, ?_⟩)
    ·rcases List.mem_append.1 hx with hx | hx
     ·exact ha.ok x hx
     ·rw [List.mem_singleton.1 hx]; exact hs.ok
    ·have := ha.ln
     rw [List.length_append, List.length_singleton]; omega
    ·rw [j1m]
     have h5 := ha.cs a b
     have h6 := hs.cs a b
     show q9c a b acc + (csS a b s + 0) + mu a b t2 <= _
     omega
    ·rw [List.map_append, List.map_singleton, z1a]
     have h5 := ha.ns
     have h6 := hs.ns
     omega
  ·exact Spc.ok ha
theorem j1o {R : q4e} (h : RI R) {n lv : Nat} (hl : lv <= 30) {ts : List Tok} (ha : Al ts) : Spc (z4b n R lv ts) (RB lv ts) := by
 unfold z4b
 refine (q8j (P := RSs (lv + 1) ts.tail) hl (fun tl t0 e h30 => ?_)).mono (fun x t1 ⟨h30, tl, t0, tr, e1, e2, h1⟩ => ?_)
 ·rw [e] at ha ⊢
  exact x2c h h30 t0 n [] t0 ⟨(fun e he => by cases he), (by show 0 <= 400; omega), ha.tail, (fun a b => by show 0 + mu a b t0 <= mu a b t0; omega), (by show lv + 1 + 0 <= 30; omega)⟩
 ·refine ⟨h1.ok, h1.ln, h1.al.tail, fun a b => ?_, ?_⟩
  ·have h3 := h1.cs a b
   have h4 := x3r e2 (by decide) a b
   rw [e1] at h3 ⊢
   simp only [List.tail_cons] at h3
   rw [z6a] at h3 ⊢
   omega
  ·rw [z0k]
   have := h1.ns
   omega
theorem z1c {s : St} {ts : List Tok} {P : St -> List Tok -> Prop} (h : ∀ t t1, ts = t :: t1 -> P s t1) : Spc (q4p s ts) P := by
 unfold q4p
 exact Spc.bind (q3a _ ts) (fun _ t1 ⟨t, e, _⟩ => Spc.ok (h t t1 e))
theorem x8a {R : q4e} (h : RI R) {lv : Nat} (hl : lv <= 30) {ts : List Tok} (ha : Al ts) : Spc (q6t R lv ts) (fun s t1 => RS lv ts s t1 /\ s.kind = 4) := by
 unfold q6t
 dsimp only
 refine Spc.bind (q3a _ ts) (fun _ t1 ⟨t, e1, _⟩ => ?_)
 subst e1
 refine Spc.bind (q7d h ha.tail hl) (fun e t2 he => ?_)
 refine Spc.bind (h.block t2 lv he.al hl) (fun l t3 hb => ?_)
 have hc : ∀ a b, a + csE a b e + b + q9c a b l + (a + mu a b t3) <= mu a b (t :: t1) := fun a b => by
  have q1 := he.at1.1 a b
  have q2 := hb.cs a b
  have q3 := q1d a b t t1
  omega
 refine Spc.bind (z4p _ t3) (fun b t4 hm => ?_)
 rcases hm with ⟨rfl, t5, e5, _⟩ | ⟨rfl, e5⟩
 ·subst e5
  rw [if_pos rfl]
  split
  ·refine Spc.bind (P := fun s t6 => RS (lv + 1) t4 s t6 /\ s.kind = 4 /\ lv < 30) (z3r hl (fun h30 => (h.choice t4 (lv + 1) hb.al.tail h30).mono (fun s t6 hs => ⟨hs.1, hs.2, h30⟩))) (fun s t6 ⟨hs, hk, h30⟩ => Spc.ok ⟨⟨.iff he.ok hb.ln (by show 1 <= 400; omega) hb.ok (fun x hx => by rw [List.mem_singleton.1 hx]; exact hs.ok) (fun _ => rfl), hs.al, fun a b => ?_, ?_⟩, rfl⟩)
   ·have q1 := hc a b
    have q2 := q1d a b t5 t4
    have q3 := hs.cs a b
    have q4 : csS a b (.mk 4 ⟨#[]⟩ 0 [e] l [s] ((t :: t1).headD q2m).at_ 0) = a + (csE a b e + 0) + 0 + b + q9c a b l + (if [s].length = 1 /\ ([s].headD (.mk 0 ⟨#[]⟩ 0 [] [] [] 0 0)).kind = 4 \/ [s].length = 0 then 0 else b) + (csS a b s + 0) := rfl
    rw [q4, if_pos (.inl ⟨rfl, hk⟩)]
    omega
   ·have q1 := he.at1.2
    have q2 := hb.ns
    have q3 := hs.ns
    show lv + max (nsE e) (max (1 + (z7w l).foldr max 0) (1 + max (nsS s) 0)) <= 30
    omega
  ·refine Spc.bind (h.block t4 lv hb.al.tail hl) (fun l2 t6 h2 => Spc.ok ⟨⟨.iff he.ok hb.ln h2.ln hb.ok h2.ok (fun _ => rfl), h2.al, fun a b => ?_, ?_⟩, rfl⟩)
   ·have q1 := hc a b
    have q2 := q1d a b t5 t4
    have q3 := h2.cs a b
    have q4 : csS a b (.mk 4 ⟨#[]⟩ 0 [e] l l2 ((t :: t1).headD q2m).at_ 0) = a + (csE a b e + 0) + 0 + b + q9c a b l + (if l2.length = 1 /\ (l2.headD (.mk 0 ⟨#[]⟩ 0 [] [] [] 0 0)).kind = 4 \/ l2.length = 0 then 0 else b) + q9c a b l2 := rfl
    rw [q4]
    split <;> omega
   ·have q1 := he.at1.2
    have q2 := hb.ns
    have q3 := h2.ns
    show lv + max (nsE e) (max (1 + (z7w l).foldr max 0) (if l2.length = 0 then 0 else 1 + (z7w l2).foldr max 0)) <= 30
    split <;> omega
 ·subst e5
  rw [if_neg (by decide)]
  refine Spc.ok ⟨⟨.iff he.ok hb.ln (by show 0 <= 400; omega) hb.ok (fun x hx => by cases hx) (fun _ => rfl), hb.al, fun a b => ?_, ?_⟩, rfl⟩
  ·have q1 := hc a b
   show a + (csE a b e + 0) + 0 + b + q9c a b l + 0 + 0 + mu a b t4 <= _
   omega
  ·have q1 := he.at1.2
   have q2 := hb.ns
   show lv + max (nsE e) (max (1 + (z7w l).foldr max 0) 0) <= 30
   omega
theorem j5n {R : q4e} (h : RI R) {n lv : Nat} (hl : lv <= 30) {ts : List Tok} (ha : Al ts) : Spc (q9l n R lv ts) (RS lv ts) := by
 unfold q9l
 dsimp only
 split
 ·exact (h.choice ts lv ha hl).mono (fun s t1 hs => hs.1)
 split
 ·rename_i hc
  obtain ⟨t, r, rfl, _, h3⟩ := q3l hc
  rw [h3]
  refine Spc.bind (q7d h ha.tail hl) (fun e t2 he => Spc.bind (h.block t2 lv he.al hl) (fun l t3 hb => Spc.ok ⟨.whl he.ok hb.ln hb.ok (fun _ => rfl), hb.al, fun a b => ?_, ?_⟩))
  ·have q1 := he.at1.1 a b
   have q2 := hb.cs a b
   have q3 := q1d a b t r
   show a + (csE a b e + 0) + 0 + b + q9c a b l + 0 + 0 + mu a b t3 <= _
   omega
  ·have q1 := he.at1.2
   have q2 := hb.ns
   show lv + max (nsE e) (1 + (z7w l).foldr max 0) <= 30
   omega
 split
 ·rename_i hc
  obtain ⟨t, r, rfl, _, h3⟩ := q3l hc
  rw [h3]
  refine Spc.bind (z0z r) (fun u t1 ⟨e1, hk⟩ => ?_)
  subst e1
  have hn := ha.tail.hd.nm hk
  refine Spc.bind (q3a _ t1) (fun _ t2 ⟨t3, e2, _⟩ => ?_)
  subst e2
  refine Spc.bind (q7z t2) (fun ty t4 ⟨hty, t5, e3⟩ => ?_)
  subst e3
  refine Spc.bind (q3a _ t4) (fun _ t6 ⟨t7, e4, _⟩ => ?_)
  subst e4
  refine Spc.bind (q7d h ha.tail.tail.tail.tail.tail hl) (fun e t8 he => z1c (fun t9 t10 e5 => ?_))
  subst e5
  refine ⟨.lt hn hty he.ok (fun _ => rfl), he.al.tail, fun a b => ?_, ?_⟩
  ·have q1 := he.at1.1 a b
   have q2 := q1d a b t9 t10
   have q3 := q1d a b t (u :: t3 :: t5 :: t7 :: t6)
   have q4 := q1d a b u (t3 :: t5 :: t7 :: t6)
   have q5 := q1d a b t3 (t5 :: t7 :: t6)
   have q6 := q1d a b t5 (t7 :: t6)
   have q7 := q1d a b t7 t6
   show a + (csE a b e + 0) + 0 + 0 + 0 + 0 + 0 + mu a b t10 <= _
   omega
  ·have q1 := he.at1.2
   exact q1
 split
 ·rename_i hc
  obtain ⟨t, r, rfl, _, h3⟩ := q3l hc
  rw [h3]
  split
  ·refine z1c (fun t1 t2 e1 => ?_)
   subst e1
   refine ⟨.ret0 (fun _ => rfl), ha.tail.tail, fun a b => ?_, by show lv + 0 <= 30; omega⟩
   have q1 := q1d a b t (t1 :: t2)
   have q2 := q1d a b t1 t2
   show a + 0 + 0 + 0 + 0 + 0 + 0 + mu a b t2 <= _
   omega
  ·refine Spc.bind (q7d h ha.tail hl) (fun e t1 he => z1c (fun t2 t3 e1 => ?_))
   subst e1
   refine ⟨.ret he.ok (fun _ => rfl), he.al.tail, fun a b => ?_, he.at1.2⟩
   have q1 := he.at1.1 a b
   have q2 := q1d a b t r
   have q3 := q1d a b t2 t3
   show a + (csE a b e + 0) + 0 + 0 + 0 + 0 + 0 + mu a b t3 <= _
   omega
 refine Spc.bind (z0z ts) (fun t t1 ⟨e1, hk⟩ => ?_)
 subst e1
 have hn := ha.hd.nm hk
 split
 ·refine Spc.bind (x7w h hl hn ha) (fun e t2 ⟨he, hk7⟩ => z1c (fun t3 t4 e1 => ?_))
  subst e1
  refine ⟨.call hk7 he.ok (fun _ => rfl), he.al.tail, fun a b => ?_, (he.mono (show (1 : Int) <= 6 by decide)).at1.2⟩
  have q1 := (he.mono (show (1 : Int) <= 6 by decide)).at1.1 a b
  have q3 := q1d a b t3 t4
  show a + (csE a b e + 0) + 0 + 0 + 0 + 0 + 0 + mu a b t4 <= _
  omega
 split
 ·refine Spc.bind (x2b h hl ha.tail) (fun l t2 ⟨x, e2, h1, h2, h3, h4⟩ => ?_)
  subst e2
  refine Spc.bind (q3a _ t2) (fun _ t3 ⟨t4, e3, _⟩ => ?_)
  subst e3
  refine Spc.bind (q7d h h2.tail hl) (fun e t5 he => z1c (fun t6 t7 e4 => ?_))
  subst e4
  refine ⟨.put hn h1 he.ok (fun _ => rfl), he.al.tail, fun a b => ?_, ?_⟩
  ·have q1 := he.at1.1 a b
   have q2 := h3 a b
   have q3 := q1d a b t t1
   have q4 := q1d a b t4 t3
   have q5 := q1d a b t6 t7
   show a + (csE a b x + (csE a b e + 0)) + b + 0 + 0 + 0 + 0 + mu a b t7 <= _
   omega
  ·have q1 := he.at1.2
   show lv + max (1 + nsE x) (nsE e) <= 30
   omega
 ·refine Spc.bind (q3a _ t1) (fun _ t3 ⟨t4, e3, _⟩ => ?_)
  subst e3
  refine Spc.bind (q7d h ha.tail.tail hl) (fun e t5 he => z1c (fun t6 t7 e4 => ?_))
  subst e4
  refine ⟨.set hn he.ok (fun _ => rfl), he.al.tail, fun a b => ?_, he.at1.2⟩
  have q1 := he.at1.1 a b
  have q3 := q1d a b t (t4 :: t3)
  have q4 := q1d a b t4 t3
  have q5 := q1d a b t6 t7
  show a + (csE a b e + 0) + 0 + 0 + 0 + 0 + 0 + mu a b t7 <= _
  omega
theorem z1d : ∀ n, RI (q2w q1v n)
 | 0 => ⟨fun _ _ _ _ _ _ _ => Spc.no, fun _ _ _ _ => Spc.no, fun _ _ _ _ => Spc.no, fun _ _ _ _ => Spc.no, fun _ _ _ _ => Spc.no⟩
 | n + 1 => ⟨fun ts l lv ha hl h1 h6 => x7z (z1d n) hl h1 h6 ha, fun ts lv ha hl => j7o (z1d n) hl ha, fun ts lv ha hl => j5n (z1d n) hl ha, fun ts lv ha hl => x8a (z1d n) hl ha, fun ts lv ha hl => j1o (z1d n) hl ha⟩
def csV (b : Nat) (v : Vr) : Nat := if 0 < v.size then b else 0
def csF (a b : Nat) (f : Fc) : Nat := a * f.params.length + b + b + q9c a b f.body
structure RV (ts : List Tok) (v : Vr) (ts' : List Tok) : Prop where
 ok : VOK v
 al : Al ts'
 cs : ∀ a b, a + csV b v + mu a b ts' <= mu a b ts
theorem x8b {t : Tok} (h : Tg t) (hk : t.kind = 3 \/ t.kind = 4) (s : Int) (hs : s = 1 \/ s = -1) : -9223372036854775808 < wrap64 (s * q1v t) /\ wrap64 (s * q1v t) < 9223372036854775808 := by
 obtain ⟨n, e1, e2⟩ := x7x h hk
 rw [e1]
 rcases hs with rfl | rfl
 ·rw [x0g _ (by omega)]; omega
 ·rw [x0g _ (by omega)]; omega
theorem j1p {ty : Int} {ts : List Tok} (ha : Al ts) (hty : q1c ty = true) : Spc (q9k q1v ty ts) (fun v t1 => (-9223372036854775808 < v /\ v < 9223372036854775808 /\ (ty = 3 -> v = 0 \/ v = 1) /\ (ty = 4 -> v = 0)) /\ Al t1 /\ ∀ a b, mu a b t1 <= mu a b ts) := by
 unfold q9k
 split
 ·rename_i h3
  refine Spc.bind (z4p _ ts) (fun b t1 hm => ?_)
  rcases hm with ⟨rfl, t5, e5, _⟩ | ⟨rfl, e5⟩
  ·subst e5
   exact Spc.ok ⟨⟨by decide, by decide, fun _ => .inr rfl, fun q => by omega⟩, ha.tail, fun a b => Nat.le_add_left _ _⟩
  ·subst e5
   rw [if_neg (by decide)]
   refine Spc.bind (q3a _ t1) (fun _ t2 ⟨t3, e3, _⟩ => ?_)
   subst e3
   exact Spc.ok ⟨⟨by decide, by decide, fun _ => .inl rfl, fun q => by omega⟩, ha.tail, fun a b => Nat.le_add_left _ _⟩
 split
 ·rename_i h3 h4
  refine Spc.bind (q3a _ ts) (fun _ t2 ⟨t3, e3, _⟩ => ?_)
  subst e3
  exact Spc.ok ⟨⟨by decide, by decide, fun q => absurd q h3, fun _ => rfl⟩, ha.tail, fun a b => Nat.le_add_left _ _⟩
 ·rename_i h3 h4
  have key : ∀ (s : Int), s = 1 \/ s = -1 -> ∀ t1, Al t1 -> (∀ a b, mu a b t1 <= mu a b ts) -> Spc (q6g q1v ty s t1) (fun v t1 => (-9223372036854775808 < v /\ v < 9223372036854775808 /\ (ty = 3 -> v = 0 \/ v = 1) /\ (ty = 4 -> v = 0)) /\ Al t1 /\ ∀ a b, mu a b t1 <= mu a b ts) := by
   intro s hs t1 h1 h2
   unfold q6g
   split
   ·exact Spc.fail
   ·rename_i hc
    have hk : (t1.headD q2m).kind = 3 \/ (t1.headD q2m).kind = 4 := by
     unfold q1c at hty
     rw [decide_eq_true_eq] at hty
     omega
    have hk2 : ∃ t r, t1 = t :: r /\ (t.kind = 3 \/ t.kind = 4) /\ q0w t1 = r := by
     rcases hk with hk | hk
     ·obtain ⟨t, r, e, q1, q2⟩ := q4t hk (by decide); exact ⟨t, r, e, .inl q1, q2⟩
     ·obtain ⟨t, r, e, q1, q2⟩ := q4t hk (by decide); exact ⟨t, r, e, .inr q1, q2⟩
    obtain ⟨t, r, rfl, q1, q2⟩ := hk2
    rw [q2]
    obtain ⟨p1, p2⟩ := x8b h1.hd q1 s hs
    exact Spc.ok ⟨⟨p1, p2, fun q => absurd q h3, fun q => absurd q h4⟩, h1.tail, fun a b => Nat.le_trans (Nat.le_add_left _ _) (h2 a b)⟩
  refine Spc.bind (z4p _ ts) (fun b t1 hm => ?_)
  rcases hm with ⟨rfl, t5, e5, _⟩ | ⟨rfl, e5⟩
  ·subst e5
   exact key _ (.inr rfl) t1 ha.tail (fun a b => Nat.le_add_left _ _)
  ·subst e5
   exact key _ (.inl rfl) t1 ha (fun a b => Nat.le_refl _)
theorem j2u {s : ByteArray} {ty n v at_ : Int} (h1 : q1p s = true) (h2 : q1c ty = true) (h3 : 0 <= n /\ n <= 256) (h4 : 0 < n -> v = 0) (h5 : -9223372036854775808 < v /\ v < 9223372036854775808 /\ (ty = 3 -> v = 0 \/ v = 1) /\ (ty = 4 -> v = 0)) : VOK ⟨s, ty, n, v, at_⟩ := by
 obtain ⟨q1, q2, q3, q4⟩ := h5
 refine ⟨?_, q1, q2, q3⟩
 unfold q6x
 dsimp only
 rw [h1, h2, decide_eq_true h3.1, decide_eq_true h3.2]
 split
 ·rename_i hc
  have : v = 0 := hc.elim (fun q => h4 q) q4
  rw [this]; rfl
 split
 ·rename_i hc
  rcases q3 hc with rfl | rfl <;> rfl
 ·have : v ≠ -9223372036854775808 := by omega
  simpa using this
theorem j7p {ts : List Tok} (ha : Al ts) : Spc (q3h q1v ts) (RV ts) := by
 unfold q3h
 refine Spc.bind (q3a _ ts) (fun _ t1 ⟨t, e1, _⟩ => ?_)
 subst e1
 refine Spc.bind (z0z t1) (fun u t2 ⟨e1, hk⟩ => ?_)
 subst e1
 have hn := ha.tail.hd.nm hk
 refine Spc.bind (q3a _ t2) (fun _ t3 ⟨t4, e2, _⟩ => ?_)
 subst e2
 have ha3 := ha.tail.tail.tail
 refine Spc.bind (z4p _ t3) (fun b t5 hm => Spc.bind (P := fun v t5 => VOK v /\ Al t5 /\ ∀ a b, csV b v + mu a b t5 <= mu a b t3) ?_ (fun v t5 ⟨q1, q2, q3⟩ => Spc.bind (q3a [59] t5) (fun _ t6 ⟨t7, e7, _⟩ => Spc.ok ?_)))
 ·rcases hm with ⟨rfl, t6, e5, e6⟩ | ⟨rfl, e5⟩
  ·subst e5
   rw [if_pos rfl]
   refine Spc.bind (P := fun n t7 => (0 < n /\ n <= 256) /\ Al t7 /\ ∀ a b, mu a b t7 <= mu a b t5) ?_ (fun n t7 ⟨q1, q2, q3⟩ => ?_)
   ·unfold x2j
    split
    ·exact Spc.fail
    ·split
     ·exact Spc.fail
     ·rename_i h3 hc
      obtain ⟨t, r, rfl, p1, p2⟩ := q4t (Classical.byContradiction h3 : (t5.headD q2m).kind = 3) (by decide)
      rw [p2]
      exact Spc.ok ⟨by omega, ha3.tail.tail, fun a b => Nat.le_add_left _ _⟩
   ·refine Spc.bind (q3a _ t7) (fun _ t8 ⟨t9, e9, _⟩ => ?_)
    subst e9
    refine Spc.bind (q7z t8) (fun ty t10 ⟨hty, t11, e11⟩ => ?_)
    subst e11
    refine Spc.ok ⟨j2u hn hty ⟨by omega, q1.2⟩ (fun _ => rfl) ⟨by decide, by decide, fun _ => .inl rfl, fun _ => rfl⟩, q2.tail.tail, fun a b => ?_⟩
    have p1 := q3 a b
    have p2 := q1d a b t9 (t11 :: t10)
    have p3 := q1d a b t11 t10
    have p4 := x3r e6 (by decide) a b
    rw [z6a a b t6 t5]
    show (if 0 < n then b else 0) + mu a b t10 <= _
    rw [if_pos q1.1]
    omega
  ·subst e5
   rw [if_neg (by decide)]
   refine Spc.bind (q7z t5) (fun ty t10 ⟨hty, t11, e11⟩ => ?_)
   subst e11
   have fin : ∀ v t12, (-9223372036854775808 < v /\ v < 9223372036854775808 /\ (ty = 3 -> v = 0 \/ v = 1) /\ (ty = 4 -> v = 0)) -> Al t12 -> (∀ a b, mu a b t12 <= mu a b t10) -> Spc (some (.ok ((⟨u.text, ty, 0, v, u.at_⟩ : Vr), t12))) (fun v t5 => VOK v /\ Al t5 /\ ∀ a b, csV b v + mu a b t5 <= mu a b (t11 :: t10)) := by
    intro v t12 q1 q2 q3
    refine Spc.ok ⟨j2u hn hty ⟨by decide, by decide⟩ (fun q => absurd q (by decide)) q1, q2, fun a b => ?_⟩
    have p1 := q3 a b
    have p3 := q1d a b t11 t10
    show 0 + mu a b t12 <= _
    omega
   refine Spc.bind (z4p _ t10) (fun b t12 hm => ?_)
   rcases hm with ⟨rfl, t13, e5, e6⟩ | ⟨rfl, e5⟩
   ·subst e5
    rw [if_pos rfl]
    exact Spc.bind (j1p ha3.tail.tail hty) (fun v t14 ⟨q1, q2, q3⟩ => fin v t14 q1 q2 (fun a b => Nat.le_trans (q3 a b) (Nat.le_add_left _ _)))
   ·subst e5
    rw [if_neg (by decide)]
    exact fin 0 t12 ⟨by decide, by decide, fun _ => .inl rfl, fun _ => rfl⟩ ha3.tail (fun a b => Nat.le_refl _)
 ·subst e7
  refine ⟨q1, q2.tail, fun a b => ?_⟩
  have p1 := q3 a b
  have p2 := q1d a b t (u :: t4 :: t3)
  have p3 := q1d a b u (t4 :: t3)
  have p4 := q1d a b t4 t3
  have p5 := q1d a b t7 t6
  omega
theorem x2d {α : Type} (f : α -> Nat) (l : List α) (x : α) : q7j f (l ++ [x]) = q7j f l + f x := by
 induction l with
 | nil => show f x + 0 = 0 + f x; omega
 | cons y l ih => show f y + q7j f (l ++ [x]) = f y + q7j f l + f x; rw [ih]; omega
structure RVs (ts : List Tok) (l : List Vr) (ts' : List Tok) : Prop where
 ok : ∀ v ∈ l, VOK v
 ln : l.length <= 64
 al : Al ts'
 cs : ∀ a b, q7j (csV b) l + mu a b ts' <= mu a b ts
theorem x8c (ts : List Tok) : ∀ (m : Nat) (acc : List Vr) (t1 : List Tok), RVs ts acc t1 -> Spc (q8s q1v m acc t1) (RVs ts)
 | 0, acc, t1, ha => Spc.no
 | m + 1, acc, t1, ha => by
  unfold q8s
  split
  ·split
   ·exact Spc.fail
   ·refine Spc.bind (j7p ha.al) (fun s t2 hs => x8c ts m _ t2 ⟨fun x hx => ?_, ?_, hs.al, fun a b => ?_⟩)
    ·rcases List.mem_append.1 hx with hx | hx
     ·exact ha.ok x hx
     ·rw [List.mem_singleton.1 hx]; exact hs.ok
    ·have := ha.ln
     rw [List.length_append, List.length_singleton]; omega
    ·rw [x2d]
     have h5 := ha.cs a b
     have h6 := hs.cs a b
     omega
  ·exact Spc.ok ha
structure RP (ts : List Tok) (l : List Pm) (ts' : List Tok) : Prop where
 ok : ∀ p ∈ l, q1p p.name = true /\ q1c p.type = true
 ln : l.length <= 8
 al : Al ts'
 cs : ∀ a b, a * l.length + mu a b ts' <= mu a b ts
theorem z8c (ts : List Tok) : ∀ (m : Nat) (acc : List Pm) (t1 : List Tok), RP ts acc t1 -> Spc (z2p (tx [41]) q8p m acc t1) (RP ts)
 | 0, acc, t1, ha => Spc.no
 | m + 1, acc, t1, ha => by
  unfold z2p
  split
  ·exact Spc.ok ha
  ·refine Spc.bind (P := fun p t2 => RP ts (acc ++ [p]) t2) ?_ (fun p t2 hp => ?_)
   ·unfold q8p
    split
    ·exact Spc.fail
    ·rename_i hc
     refine Spc.bind (z0z t1) (fun u t2 ⟨e1, hk⟩ => ?_)
     subst e1
     have hn := ha.al.hd.nm hk
     refine Spc.bind (q3a _ t2) (fun _ t3 ⟨t4, e2, _⟩ => ?_)
     subst e2
     refine Spc.bind (q7z t3) (fun ty t5 ⟨hty, t6, e3⟩ => ?_)
     subst e3
     refine Spc.ok ⟨fun x hx => ?_, ?_, ha.al.tail.tail.tail, fun a b => ?_⟩
     ·rcases List.mem_append.1 hx with hx | hx
      ·exact ha.ok x hx
      ·rw [List.mem_singleton.1 hx]; exact ⟨hn, hty⟩
     ·have h1 := ha.ln
      have h2 : ¬ (u.kind = 1 /\ acc.length = 8) := hc
      rw [List.length_append, List.length_singleton]; omega
     ·have h1 := ha.cs a b
      have q1 := q1d a b u (t4 :: t6 :: t5)
      have q2 := q1d a b t4 (t6 :: t5)
      have q3 := q1d a b t6 t5
      rw [List.length_append, List.length_singleton, Nat.mul_add, Nat.mul_one]
      omega
   ·split
    ·exact Spc.ok hp
    ·refine Spc.bind (q3a _ t2) (fun _ t3 ⟨t4, e2, _⟩ => ?_)
     subst e2
     split
     ·exact Spc.fail
     ·refine z8c ts m _ t3 ⟨hp.ok, hp.ln, hp.al.tail, fun a b => ?_⟩
      have h1 := hp.cs a b
      have q1 := q1d a b t4 t3
      omega
structure RF (ts : List Tok) (f : Fc) (ts' : List Tok) : Prop where
 ok : FOK True f
 al : Al ts'
 cs : ∀ a b, a + csF a b f + mu a b ts' <= mu a b ts
 ns : nsF f <= 30
theorem j5o {n : Nat} {R : q4e} (h : RI R) {ts : List Tok} (ha : Al ts) : Spc (q3i n R 0 ts) (RF ts) := by
 unfold q3i
 refine Spc.bind (q3a _ ts) (fun _ t1 ⟨t, e1, _⟩ => ?_)
 subst e1
 refine Spc.bind (z0z t1) (fun u t2 ⟨e1, hk⟩ => ?_)
 subst e1
 have hn := ha.tail.hd.nm hk
 refine Spc.bind (q3a _ t2) (fun _ t3 ⟨t4, e2, e2x⟩ => ?_)
 subst e2
 refine Spc.bind (z8c t3 n [] t3 ⟨(fun p hp => by cases hp), (by show 0 <= 8; omega), ha.tail.tail.tail, fun a b => by show a * 0 + mu a b t3 <= mu a b t3; omega⟩) (fun ps t5 hp => ?_)
 refine Spc.bind (q3a _ t5) (fun _ t6 ⟨t7, e3, _⟩ => ?_)
 subst e3
 have ha6 := hp.al.tail
 refine Spc.bind (z4p _ t6) (fun b t8 hm => ?_)
 refine Spc.bind (P := fun ty t9 => (ty = 0 \/ q1c ty = true) /\ Al t9 /\ ∀ a b, mu a b t9 <= mu a b t6) ?_ (fun ty t9 ⟨q1, q2, q3⟩ => ?_)
 ·rcases hm with ⟨rfl, t10, e5, e6⟩ | ⟨rfl, e5⟩
  ·subst e5
   rw [if_pos rfl]
   refine (q7z t8).mono (fun ty t9 ⟨hty, t11, e11⟩ => ?_)
   subst e11
   refine ⟨.inr hty, ha6.tail.tail, fun a b => ?_⟩
   have p1 := q1d a b t10 (t11 :: t9)
   have p2 := q1d a b t11 t9
   omega
  ·subst e5
   rw [if_neg (by decide)]
   exact Spc.ok ⟨.inl rfl, ha6, fun a b => Nat.le_refl _⟩
 ·refine Spc.bind (h.block t9 0 q2 (by omega)) (fun l t10 hb => Spc.ok ⟨⟨hn, q1, hp.ln, hp.ok, hb.ln, hb.ok, fun _ => rfl⟩, hb.al, fun a b => ?_, ?_⟩)
  ·have p1 := hb.cs a b
   have p2 := q3 a b
   have p3 := hp.cs a b
   have p4 := q1d a b t7 t6
   have p5 := q1d a b t (u :: t4 :: t3)
   have p6 := q1d a b u (t4 :: t3)
   have p7 := x3r e2x (by decide) a b
   rw [z6a a b t4 t3] at p6
   show a + (a * ps.length + b + b + q9c a b l) + mu a b t10 <= _
   omega
  ·have p1 := hb.ns
   show 1 + (z7w l).foldr max 0 <= 30
   omega
structure RFs (ts : List Tok) (l : List Fc) (ts' : List Tok) : Prop where
 ok : ∀ f ∈ l, FOK True f
 ln : l.length <= 64
 al : Al ts'
 cs : ∀ a b, q7j (csF a b) l + mu a b ts' <= mu a b ts
 ns : (l.map nsF).foldr max 0 <= 30
theorem x2e {n : Nat} {R : q4e} (h : RI R) (ts : List Tok) : ∀ (m : Nat) (acc : List Fc) (t1 : List Tok), RFs ts acc t1 -> Spc (q6l n R m acc t1) (RFs ts)
 | 0, acc, t1, ha => Spc.no
 | m + 1, acc, t1, ha => by
  unfold q6l
  split
  ·split
   ·exact Spc.fail
   ·refine Spc.bind (j5o h ha.al) (fun s t2 hs => x2e h ts m _ t2 ⟨fun x hx => ?_, ?_, hs.al, fun a b => ?_, ?_⟩)
    ·rcases List.mem_append.1 hx with hx | hx
     ·exact ha.ok x hx
     ·rw [List.mem_singleton.1 hx]; exact hs.ok
    ·have := ha.ln
     rw [List.length_append, List.length_singleton]; omega
    ·rw [x2d]
     have h5 := ha.cs a b
     have h6 := hs.cs a b
     omega
    ·rw [List.map_append, List.map_singleton, z1a]
     have h5 := ha.ns
     have h6 := hs.ns
     omega
  ·exact Spc.ok ha
structure RM (ts : List Tok) (m : Md) : Prop where
 ok : MOK True m
 cs : ∀ a b, q7j (csV b) m.vars + q7j (csF a b) m.funcs <= mu a b ts
 ns : nsM m <= 30
theorem j7q {n : Nat} {ts : List Tok} (ha : Al ts) : Spc (x4g q1v n ts) (fun m _ => RM ts m) := by
 unfold x4g
 refine Spc.bind (x8c ts n [] ts ⟨(fun p hp => by cases hp), (by show 0 <= 64; omega), ha, fun a b => by show 0 + mu a b ts <= mu a b ts; omega⟩) (fun vs t1 hv => ?_)
 refine Spc.bind (x2e (z1d n) t1 n [] t1 ⟨(fun p hp => by cases hp), (by show 0 <= 64; omega), hv.al, (fun a b => by show 0 + mu a b t1 <= mu a b t1; omega), (by show 0 <= 30; omega)⟩) (fun fs t2 hf => ?_)
 split
 ·refine Spc.ok ⟨⟨hv.ln, hf.ln, hv.ok, hf.ok⟩, fun a b => ?_, hf.ns⟩
  have p1 := hv.cs a b
  have p2 := hf.cs a b
  show q7j (csV b) vs + q7j (csF a b) fs <= _
  omega
 ·exact Spc.fail
theorem j1q (m : List UInt8) : (z6m fxB m).2 ≠ 1 := by
 have hw : ∀ n, (q3v m n).2 ≠ 1 := by
  intro n
  unfold q3v
  split
  ·show (0 : Int) ≠ 1; decide
  ·show (3 : Int) ≠ 1; decide
 unfold z6m
 dsimp only
 split
 ·exact hw _
 ·split
  ·split
   ·show (4 : Int) ≠ 1; decide
   ·show (0 : Int) ≠ 1; decide
  ·exact hw _
theorem x3s (m : List UInt8) (h1 : (q1b fxB m).2 = 1) : q1p ⟨(m.take (q1b fxB m).1).toArray⟩ = true := by
 obtain ⟨q, hq⟩ : ∃ q, q = q1b fxB m := ⟨_, rfl⟩
 have hq2 := hq
 rw [<- hq] at h1 ⊢
 unfold q1b at hq2
 simp only at hq2
 by_cases a1 : q1g (m.headD 0).toNat = true
 ·rw [if_pos a1] at hq2
  split at hq2
  ·rw [hq2] at h1; exact absurd h1 (by decide)
  ·rename_i h24
   split at hq2
   ·rw [hq2] at h1; exact absurd (show (2 : Int) = 1 from h1) (by decide)
   ·rename_i hw
    rw [hq2]
    show q1p ⟨(m.take (q2a q0s m)).toArray⟩ = true
    cases m with
    | nil => exact absurd a1 (by decide)
    | cons c r =>
     have hc : q0s c.toNat = true := by unfold q0s; rw [show q1g c.toNat = true from a1]; rfl
     have hr : q2a q0s (c :: r) = q2a q0s r + 1 := by show (if q0s c.toNat then _ else _) = _; rw [if_pos hc]
     have hle := q4d q0s (c :: r)
     have hsz : (⟨((c :: r).take (q2a q0s (c :: r))).toArray⟩ : ByteArray).size = q2a q0s (c :: r) := by
      show (List.toArray _).size = _
      rw [List.size_toArray, List.length_take]; omega
     have hrun : ∀ (l : List UInt8), q2a q0s (l.take (q2a q0s l)) = q2a q0s l := by
      intro l
      induction l with
      | nil => rfl
      | cons d l ih =>
       show q2a q0s ((d :: l).take (if q0s d.toNat then q2a q0s l + 1 else 0)) = (if q0s d.toNat then q2a q0s l + 1 else 0)
       by_cases hd : q0s d.toNat = true
       ·rw [if_pos hd, List.take_succ_cons]
        show (if q0s d.toNat then _ else _) = _
        rw [if_pos hd, ih]
       ·rw [if_neg hd]; rfl
     unfold q1p
     have hbt : bt ⟨((c :: r).take (q2a q0s (c :: r))).toArray⟩ 0 = (c.toNat : Int) := by
      rw [<- j2w _ 0 (by rw [hsz, hr]; exact Nat.succ_pos _)]
      have e : ∀ (l : List UInt8) (h : 0 < (⟨l.toArray⟩ : ByteArray).size) (h2 : 0 < l.length), (⟨l.toArray⟩ : ByteArray)[0]'h = l[0]'h2 := fun l h h2 => rfl
      have h2 : 0 < ((c :: r).take (q2a q0s (c :: r))).length := by rw [hr]; simp
      show (((⟨((c :: r).take (q2a q0s (c :: r))).toArray⟩ : ByteArray)[0]'(by rw [hsz, hr]; exact Nat.succ_pos _)).toNat : Int) = _
      rw [e _ _ h2]
      have e3 : ((c :: r).take (q2a q0s (c :: r)))[0]'h2 = c := by simp only [hr, List.take_succ_cons, List.getElem_cons_zero]
      rw [e3]
     rw [hsz, hbt]
     show (decide (0 < q2a q0s (c :: r)) && decide (q2a q0s (c :: r) <= 24) && q1g c.toNat && (q2a q0s ((c :: r).take (q2a q0s (c :: r))) == q2a q0s (c :: r)) && !z4y _) = true
     rw [hrun, decide_eq_true (by rw [hr]; exact Nat.succ_pos _), decide_eq_true (by omega), show q1g c.toNat = true from a1]
     simpa using hw
 ·rw [if_neg a1] at hq2
  by_cases a2 : q0k (m.headD 0).toNat = true
  ·rw [if_pos a2] at hq2
   rw [hq2] at h1
   exact absurd h1 (j1q m)
  ·rw [if_neg a2] at hq2
   exfalso
   split at hq2
   ·split at hq2 <;> (rw [hq2] at h1; exact absurd h1 (by decide))
   ·split at hq2
    ·rw [hq2] at h1; exact absurd h1 (by decide)
    ·split at hq2 <;> (rw [hq2] at h1; exact absurd h1 (by decide))
def brc (l : List UInt8) : Nat := l.countP (fun c => c == 40 || c == 91 || c == 123)
theorem x8d (l m : List UInt8) : brc (l ++ m) = brc l + brc m := List.countP_append
theorem z6b (l : List UInt8) (i j : Nat) (h : i <= j) : brc (l.take i) <= brc (l.take j) := by
 obtain ⟨k, rfl⟩ : ∃ k, j = i + k := ⟨j - i, by omega⟩
 rw [List.take_add, x8d]; omega
theorem j2v (a b : Nat) (l m : List Tok) : mu a b (l ++ m) = mu a b l + mu a b m := by
 induction l with
 | nil => exact (Nat.zero_add _).symm
 | cons t r ih => show wk a b t + mu a b (r ++ m) = wk a b t + mu a b r + mu a b m; rw [ih]; omega
theorem j8r (w : List UInt8) : (if brB w = true then 1 else 0) <= brc w := by
 split
 ·rename_i h
  unfold brB at h
  simp only [Bool.or_eq_true, beq_iff_eq] at h
  rcases h with (rfl | rfl) | rfl <;> decide
 ·exact Nat.zero_le _
theorem z6c (l : List UInt8) (hz : l.length <= 16384) : ∀ (k i : Nat) (out ts : List Tok), q7n fxB l k i out = some (.ok ts) -> i <= l.length -> (∀ t ∈ out, t.kind = 1 -> q1p t.text = true) -> mu 0 1 out <= brc (l.take i) -> (∀ t ∈ ts, t.kind = 1 -> q1p t.text = true) /\ mu 0 1 ts <= brc l
 | 0, _, _, _, h, _, _, _ => by cases h
 | k + 1, i, out, ts, h, hi, ho, hb => by
  unfold q7n at h
  by_cases hl : i < l.length
  ·rw [if_pos hl] at h
   simp only at h
   split at h
   ·have h1 := q4d q7e (l.drop i)
    rw [List.length_drop] at h1
    exact z6c l hz k _ out ts h (by omega) ho (Nat.le_trans hb (z6b l _ _ (by omega)))
   ·split at h
    ·exact z6c l hz k _ out ts h (by omega) ho (Nat.le_trans hb (z6b l _ _ (by omega)))
    ·split at h
     ·injection h with h; cases h
     ·rename_i hp
      have hne : l.drop i ≠ [] := fun q => by
       have := congrArg List.length q
       rw [List.length_drop, List.length_nil] at this
       omega
      have hk := z2v (l.drop i) i hne (by rw [List.length_drop]; omega) hp
      have h1 := hk.1
      rw [List.length_drop] at h1
      refine z6c l hz k _ _ ts h (by omega) ?_ ?_
      ·intro t ht hk1
       rcases List.mem_append.1 ht with ht | ht
       ·exact ho t ht hk1
       ·obtain rfl : t = _ := List.mem_singleton.1 ht
        exact x3s _ hk1
      ·rw [j2v, List.take_add, x8d]
       have h2 : mu 0 1 [(⟨(q1b fxB (l.drop i)).2, ⟨((l.drop i).take (q1b fxB (l.drop i)).1).toArray⟩, i⟩ : Tok)] = (0 + if brB ((l.drop i).take (q1b fxB (l.drop i)).1) = true then 1 else 0) + 0 := rfl
       have h3 := j8r ((l.drop i).take (q1b fxB (l.drop i)).1)
       rw [h2]
       omega
  ·rw [if_neg hl] at h
   injection h with h
   injection h with h
   rw [<- h]
   refine ⟨fun t ht hk1 => ?_, ?_⟩
   ·rcases List.mem_append.1 ht with ht | ht
    ·exact ho t ht hk1
    ·obtain rfl : t = _ := List.mem_singleton.1 ht
     exact absurd (show (6 : Int) = 1 from hk1) (by decide)
   ·rw [j2v]
    have h2 : mu 0 1 [(⟨6, ⟨#[]⟩, l.length⟩ : Tok)] = 0 := rfl
    have h3 := z6b l i l.length hi
    rw [List.take_length] at h3
    rw [h2]; omega
theorem x8e {l : List UInt8} {ts : List Tok} (h : q3j fxB l = .ok ts) : Al ts /\ mu 0 1 ts <= brc l := by
 have hk := q4g l
 rw [h] at hk
 unfold q3j at h
 by_cases hz : 16384 < l.length
 ·rw [if_pos hz] at h; cases h
 ·rw [if_neg hz] at h
  obtain ⟨r, hr⟩ := q6m fxB l (l.length + 1) 0 [] (by omega)
  rw [hr] at h
  have hr2 : r = .ok ts := h
  rw [hr2] at hr
  have h1 := z6c l (by omega) _ _ _ _ hr (by omega) (fun t ht => by cases ht) (Nat.zero_le _)
  exact ⟨⟨fun t ht => ⟨hk.2.2 t ht, h1.1 t ht⟩, hk.2.1⟩, h1.2⟩
theorem x2f (l : List UInt8) : MOK True zMd /\ (q7j (csV 0) zMd.vars + q7j (csF 1 0) zMd.funcs <= 16385) /\ (q7j (csV 1) zMd.vars + q7j (csF 0 1) zMd.funcs <= brc l) /\ nsM zMd <= 30 :=
 ⟨⟨Nat.zero_le _, Nat.zero_le _, (fun v hv => by cases hv), (fun v hv => by cases hv)⟩, Nat.zero_le _, Nat.zero_le _, Nat.zero_le _⟩
theorem z4q (l : List UInt8) : MOK True (q2p l).1 /\ (q7j (csV 0) (q2p l).1.vars + q7j (csF 1 0) (q2p l).1.funcs <= 16385) /\ (q7j (csV 1) (q2p l).1.vars + q7j (csF 0 1) (q2p l).1.funcs <= brc l) /\ nsM (q2p l).1 <= 30 := by
 have hk := q4g l
 cases ht : q3j fxB l with
 | error e =>
  have e1 : q2p l = (zMd, e) := by unfold q2p q7h; simp only [ht]
  rw [e1]; exact x2f l
 | ok ts =>
  rw [ht] at hk
  obtain ⟨ha, hb⟩ := x8e ht
  obtain ⟨r, hr⟩ := z2x q1v ts hk.2.1
  cases r with
  | ok p =>
   have e1 : q2p l = (p.1, (0, 0)) := z8a ht (t := p.2) hr
   rw [e1]
   have h3 := j7q ha p.1 p.2 hr
   have h4 := h3.cs 1 0
   have h5 := h3.cs 0 1
   rw [x7u] at h4
   exact ⟨h3.ok, Nat.le_trans h4 hk.2.1, Nat.le_trans h5 hb, h3.ns⟩
  | error e =>
   have e1 : q2p l = (zMd, e) := z8b ht hr
   rw [e1]; exact x2f l
theorem q6j {s : ByteArray} (h : q1p s = true) : s.size <= 24 := by
 unfold q1p at h
 simp only [Bool.and_eq_true, decide_eq_true_eq] at h
 exact h.1.1.1.2
theorem j5p {n : Int} {s : ByteArray} (h : 0 <= n /\ n < 9223372036854775808) (hs : s.size <= 24) : 20 + s.size + (Lib.itoa n).length + (q4o n).length <= 130 := by
 have h1 := z5s (show I64 n from by unfold I64; omega)
 have h2 := x1m (show I64 n from by unfold I64; omega)
 omega
theorem x8f (l : List Ex) (h : ∀ e ∈ l, wtE e + 2 <= 200 * csE 1 0 e /\ smE e) : x1j l <= 200 * z3w 1 0 l /\ j5s l := by
 induction l with
 | nil => exact ⟨Nat.le_refl _, trivial⟩
 | cons e l ih =>
  have h1 := h e List.mem_cons_self
  have h2 := ih (fun x hx => h x (List.mem_cons_of_mem _ hx))
  refine ⟨?_, h1.2, h2.2⟩
  show 2 + wtE e + x1j l <= 200 * (csE 1 0 e + z3w 1 0 l)
  omega
theorem z6d {k o n : Int} {s : ByteArray} {l : List Ex} {a t p : Int} (h : 0 <= n /\ n < 9223372036854775808) (hs : s.size <= 24) (hl : ∀ e ∈ l, wtE e + 2 <= 200 * csE 1 0 e /\ smE e) : wtE (.mk k o n s l a t p) + 2 <= 200 * csE 1 0 (.mk k o n s l a t p) /\ smE (.mk k o n s l a t p) := by
 have h1 := j5p h hs
 have h2 := x8f l hl
 refine ⟨?_, by omega, by omega, h2.2⟩
 have e1 : wtE (.mk k o n s l a t p) = 20 + s.size + (Lib.itoa n).length + (q4o n).length + x1j l := rfl
 have e2 : 1 + z3w 1 0 l <= csE 1 0 (.mk k o n s l a t p) := by
  show 1 + z3w 1 0 l <= 1 + _ + _ + z3w 1 0 l
  omega
 omega
theorem z3t : n0.size <= 24 := by decide
theorem j9j {R : Prop} {e : Ex} (h : EOK R e) : wtE e + 2 <= 200 * csE 1 0 e /\ smE e := by
 induction h with
 | int h _ => exact z6d (by omega) z3t (fun e he => by cases he)
 | fix h _ => exact z6d (by omega) z3t (fun e he => by cases he)
 | bool h _ => exact z6d (by omega) z3t (fun e he => by cases he)
 | null _ => exact z6d (by omega) z3t (fun e he => by cases he)
 | name h _ => exact z6d (by omega) (q6j h) (fun e he => by cases he)
 | index h _ _ ih => exact z6d (by omega) (q6j h) (fun e he => by rw [List.mem_singleton.1 he]; exact ih)
 | call h _ _ _ ih => exact z6d (by omega) (q6j h) ih
 | one _ _ _ ih => exact z6d (by omega) z3t (fun e he => by rw [List.mem_singleton.1 he]; exact ih)
 | both _ _ _ _ _ i1 i2 =>
  refine z6d (by omega) z3t (fun e he => ?_)
  rcases List.mem_cons.1 he with rfl | he
  ·exact i1
  ·rw [List.mem_singleton.1 he]; exact i2
def SW (s : St) : Prop := (∀ lv, lv + csS 1 0 s <= 20000 -> lv + 2 + wtS s lv <= 100000 * csS 1 0 s) /\ smS s
theorem x0h (l : List St) (h : ∀ s ∈ l, SW s) : (∀ lv, lv + q9c 1 0 l <= 20000 -> z9w l lv <= 100000 * q9c 1 0 l) /\ j4e l := by
 induction l with
 | nil => exact ⟨fun lv _ => Nat.zero_le _, trivial⟩
 | cons e l ih =>
  have h1 := h e List.mem_cons_self
  have h2 := ih (fun x hx => h x (List.mem_cons_of_mem _ hx))
  refine ⟨fun lv hl => ?_, h1.2, h2.2⟩
  have e1 : q9c 1 0 (e :: l) = csS 1 0 e + q9c 1 0 l := rfl
  rw [e1] at hl ⊢
  have h3 := h1.1 lv (by omega)
  have h4 := h2.1 lv (by omega)
  show lv + 2 + wtS e lv + z9w l lv <= _
  omega
theorem z8d {k : Int} {s : ByteArray} {t : Int} {es : List Ex} {b l : List St} {a p : Int} (hs : s.size <= 24) (he : ∀ e ∈ es, wtE e + 2 <= 200 * csE 1 0 e /\ smE e) (hb : ∀ s ∈ b, SW s) (hl : ∀ s ∈ l, SW s) : SW (.mk k s t es b l a p) := by
 have h1 := x8f es he
 have h2 := x0h b hb
 have h3 := x0h l hl
 refine ⟨fun lv hlv => ?_, by omega, h1.2, h2.2, h3.2⟩
 have e1 : wtS (.mk k s t es b l a p) lv = 40 + s.size + 2 * lv + x1j es + z9w b (lv + 1) + z9w l (lv + 1) := rfl
 have e2 : 1 + z3w 1 0 es + q9c 1 0 b + q9c 1 0 l <= csS 1 0 (.mk k s t es b l a p) := by
  show 1 + z3w 1 0 es + q9c 1 0 b + q9c 1 0 l <= 1 + z3w 1 0 es + _ + _ + q9c 1 0 b + _ + q9c 1 0 l
  omega
 have h4 := h2.1 (lv + 1) (by omega)
 have h5 := h3.1 (lv + 1) (by omega)
 have h6 := h1.1
 omega
theorem z1e : ∀ s ∈ ([] : List St), SW s := fun s hs => by cases hs
theorem z3u {R : Prop} {e : Ex} (h : EOK R e) : ∀ x ∈ [e], wtE x + 2 <= 200 * csE 1 0 x /\ smE x := fun x hx => by rw [List.mem_singleton.1 hx]; exact j9j h
theorem j9v {R : Prop} {s : St} (h : SOK R s) : SW s := by
 induction h with
 | lt h1 _ he _ => exact z8d (q6j h1) (z3u he) z1e z1e
 | set h1 he _ => exact z8d (q6j h1) (z3u he) z1e z1e
 | put h1 hi he _ =>
  refine z8d (q6j h1) (fun x hx => ?_) z1e z1e
  rcases List.mem_cons.1 hx with rfl | hx
  ·exact j9j hi
  ·exact z3u he x hx
 | iff he _ _ _ _ _ ib il => exact z8d z3t (z3u he) ib il
 | whl he _ _ _ ib => exact z8d z3t (z3u he) ib z1e
 | ret0 _ => exact z8d z3t (fun x hx => by cases hx) z1e z1e
 | ret he _ => exact z8d z3t (z3u he) z1e z1e
 | call _ he _ => exact z8d z3t (z3u he) z1e z1e
theorem j9k : ∀ (l : List Pm), (∀ p ∈ l, q1p p.name = true /\ q1c p.type = true) -> j2o l <= 32 * l.length
 | [], _ => Nat.zero_le _
 | x :: l, h => by
  have h1 := q6j (h x List.mem_cons_self).1
  have h2 := j9k l (fun y hy => h y (List.mem_cons_of_mem _ hy))
  show 8 + x.name.size + j2o l <= 32 * (l.length + 1)
  omega
theorem j9l {R : Prop} {f : Fc} (h : FOK R f) (hc : csF 1 0 f <= 16385) : wtF f <= 400 + 100000 * csF 1 0 f /\ smF f := by
 have h1 := q6j h.nm
 have h2 := j9k _ h.ps
 have h3 := h.pl
 have e1 : csF 1 0 f = 1 * f.params.length + 0 + 0 + q9c 1 0 f.body := rfl
 rw [e1] at hc ⊢
 have h4 := x0h f.body (fun s hs => j9v (h.bs s hs))
 have h5 := h4.1 1 (by omega)
 refine ⟨?_, by omega, by omega, (fun p hp => by have := q6j (h.ps p hp).1; omega), h4.2⟩
 show 40 + f.name.size + j2o f.params + z9w f.body 1 <= _
 omega
theorem j9m {v : Vr} (h : VOK v) : wtV v <= 200 /\ v.name.size <= 1000000000 := by
 obtain ⟨h1, h2, h3, h4, h5⟩ := h.facts
 have h6 := q6j h1
 have hl := h.lo
 have hu := h.hi
 have h7 := z5s (show I64 v.size from by unfold I64; omega)
 have h8 := z5s (show I64 v.value from by unfold I64; omega)
 have h9 := x1m (show I64 v.value from by unfold I64; omega)
 refine ⟨?_, by omega⟩
 show 40 + v.name.size + (Lib.itoa v.size).length + (Lib.itoa v.value).length + (q4o v.value).length <= _
 omega
theorem x8g {α : Type} (f g : α -> Nat) (c : Nat) : ∀ (l : List α), (∀ x ∈ l, f x <= c + 100000 * g x) -> q7j f l <= c * l.length + 100000 * q7j g l
 | [], _ => Nat.zero_le _
 | x :: l, h => by
  have h1 := h x List.mem_cons_self
  have h2 := x8g f g c l (fun y hy => h y (List.mem_cons_of_mem _ hy))
  show f x + q7j f l <= c * (l.length + 1) + 100000 * (g x + q7j g l)
  rw [Nat.mul_add, Nat.mul_add]
  omega
theorem x0i {α : Type} (g : α -> Nat) : ∀ (l : List α), ∀ x ∈ l, g x <= q7j g l
 | y :: l, x, hx => by
  show g x <= g y + q7j g l
  rcases List.mem_cons.1 hx with rfl | hx
  ·omega
  ·have := x0i g l x hx; omega
theorem x8h {R : Prop} {m : Md} (h : MOK R m) (hc : q7j (csF 1 0) m.funcs <= 16385) : SmM m := by
 refine ⟨fun v hv => ?_, fun f hf => (j9l (h.fs f hf) (Nat.le_trans (x0i _ _ f hf) hc)).2, fun _ => ?_⟩
 ·have h1 := (h.vs v hv).lo
  have h2 := (h.vs v hv).hi
  exact ⟨(j9m (h.vs v hv)).2, by omega, by omega⟩
 ·refine Nat.le_trans (j6x m) ?_
  have h1 := x8g wtV (fun _ => 0) 200 m.vars (fun v hv => by have := (j9m (h.vs v hv)).1; omega)
  have h2 := x8g wtF (csF 1 0) 400 m.funcs (fun f hf => (j9l (h.fs f hf) (Nat.le_trans (x0i _ _ f hf) hc)).1)
  have h3 : ∀ l : List Vr, q7j (fun _ => 0) l = 0 := fun l => by
   induction l with
   | nil => rfl
   | cons x l ih => show 0 + q7j _ l = 0; rw [ih]
  rw [h3] at h1
  have h4 := h.vl
  have h5 := h.fl
  show _ <= 140737488355328
  omega
theorem EOK.args {R : Prop} {k o n : Int} {s : ByteArray} {l : List Ex} {a t p : Int} (h : EOK R (.mk k o n s l a t p)) : (∀ x ∈ l, EOK R x) /\ l.length <= 16384 /\ (R -> t = 0 /\ p = 0) := by
 cases h with
 | int _ h => exact ⟨(fun x hx => by cases hx), by decide, h⟩
 | fix _ h => exact ⟨(fun x hx => by cases hx), by decide, h⟩
 | bool _ h => exact ⟨(fun x hx => by cases hx), by decide, h⟩
 | null h => exact ⟨(fun x hx => by cases hx), by decide, h⟩
 | name _ h => exact ⟨(fun x hx => by cases hx), by decide, h⟩
 | index _ h1 h => exact ⟨(fun x hx => by rw [List.mem_singleton.1 hx]; exact h1), by show 1 <= 16384; omega, h⟩
 | call _ h1 h2 h => exact ⟨h2, h1, h⟩
 | one _ h1 h => exact ⟨(fun x hx => by rw [List.mem_singleton.1 hx]; exact h1), by show 1 <= 16384; omega, h⟩
 | both _ _ h1 h2 h =>
  refine ⟨(fun x hx => ?_), by show 2 <= 16384; omega, h⟩
  rcases List.mem_cons.1 hx with rfl | hx
  ·exact h1
  ·rw [List.mem_singleton.1 hx]; exact h2
theorem q5p (l : List Ex) : q2t l = l.map q2c := by
 induction l with
 | nil => rfl
 | cons e l ih => show q2c e :: q2t l = _; rw [ih]; rfl
theorem q4u (l : List St) : q2h l = l.map q6s := by
 induction l with
 | nil => rfl
 | cons e l ih => show q6s e :: q2h l = _; rw [ih]; rfl
theorem q5d {α β : Type} (f : α -> β) (z : α) {l m : List α} (h : l.map f = m.map f) : m.length = l.length /\ ∀ i, i < l.length -> f (l.getD i z) = f (m.getD i z) := by
 have h1 := congrArg List.length h
 rw [List.length_map, List.length_map] at h1
 refine ⟨h1.symm, fun i hi => ?_⟩
 have h2 := congrArg (fun q => q[i]?) h
 simp only [List.getElem?_map] at h2
 rw [List.getElem?_eq_getElem hi, List.getElem?_eq_getElem (show i < m.length by omega)] at h2
 rw [List.getD_eq_getElem?_getD, List.getD_eq_getElem?_getD, List.getElem?_eq_getElem hi, List.getElem?_eq_getElem (show i < m.length by omega)]
 exact Option.some.inj h2
def SmX (e x : Ex) : Prop := ∀ (cs ds : List Value) (w : World), kEx.K w e cs -> kEx.K w x ds -> Calls Tryz.prog 45 #[.agg cs.toArray, .agg ds.toArray, .bool false] w fun r w' => r = .returned (.bool true) /\ Below w.heap.size w w'
theorem x8i (k o n : Int) (s : ByteArray) (l l' : List Ex) (a a' : Int) (hl : l'.length = l.length) (hle : l.length <= 16384) (ih : ∀ i, i < l.length -> SmX (l.getD i zEx) (l'.getD i zEx)) : SmX (.mk k o n s l a 0 0) (.mk k o n s l' a' 0 0) := by
 intro cs ds w h h'
 obtain ⟨A, c, rfl, hlc, hC⟩ := q2x h
 obtain ⟨A', c', rfl, hlc', hC'⟩ := q2x h'
 rw [hl] at hC' ⊢
 obtain ⟨W, hW⟩ : ∃ W, W = (w.alloc (.cells #[.int .i64 k, .int .i64 o, .int .i64 n, .string s, .slice A l.length c, .int .i64 a, .int .i64 0, .int .i64 0] 86)).alloc (.cells #[.int .i64 k, .int .i64 o, .int .i64 n, .string s, .slice A' l.length c', .int .i64 a', .int .i64 0, .int .i64 0] 86) := ⟨_, rfl⟩
 obtain ⟨b, hb⟩ : ∃ b, b = w.heap.size := ⟨_, rfl⟩
 obtain ⟨b', hb'⟩ : ∃ b, b = w.heap.size + 1 := ⟨_, rfl⟩
 have hba : Below w.heap.size w W := by rw [hW]; exact q0d (q0d (Below.refl _ _) _) _
 have HM := q0h (show W.heap[b]? = some (.cells #[.int .i64 k, .int .i64 o, .int .i64 n, .string s, .slice A l.length c, .int .i64 a, .int .i64 0, .int .i64 0] 86 (0, 0)) by rw [hW, hb]; exact (Below.heap_alloc _ _ _ (by simp)).trans (heap_alloc_new _ _))
 have HM' := q0h (show W.heap[b']? = some (.cells #[.int .i64 k, .int .i64 o, .int .i64 n, .string s, .slice A' l.length c', .int .i64 a', .int .i64 0, .int .i64 0] 86 (0, 0)) by
  have h := heap_alloc_new (w.alloc (.cells #[.int .i64 k, .int .i64 o, .int .i64 n, .string s, .slice A l.length c, .int .i64 a, .int .i64 0, .int .i64 0] 86)) (.cells #[.int .i64 k, .int .i64 o, .int .i64 n, .string s, .slice A' l.length c', .int .i64 a', .int .i64 0, .int .i64 0] 86)
  rw [show (w.alloc (.cells #[.int .i64 k, .int .i64 o, .int .i64 n, .string s, .slice A l.length c, .int .i64 a, .int .i64 0, .int .i64 0] 86)).heap.size = b' by rw [hb']; simp] at h
  rw [hW]; exact h)
 have HBW := q0h hba
 have HC := q0h (Kd.C_below hC hba)
 have HC' := q0h (Kd.C_below hC' hba)
 have HI := q0h ih
 have HW := q0h hW
 have HB := q0h hb
 have HB' := q0h hb'
 clear hba hW hb hb' hC hC' h h' ih hl hlc hlc'
 go_enter Tryz.func45, Tryz.ntmps45
 go_upto_region 1 with fail
 rw [<- HW.out, <- HB'.out, <- HB.out]
 have c0 : W.cell? ⟨b, 0, none⟩ = some (.int .i64 k) := (q0a HM.out 0).trans rfl
 have c1 : W.cell? ⟨b, 1, none⟩ = some (.int .i64 o) := (q0a HM.out 1).trans rfl
 have c2 : W.cell? ⟨b, 2, none⟩ = some (.int .i64 n) := (q0a HM.out 2).trans rfl
 have c3 : W.cell? ⟨b, 3, none⟩ = some (.string s) := (q0a HM.out 3).trans rfl
 have c4 : W.cell? ⟨b, 4, none⟩ = some (.slice A l.length c) := (q0a HM.out 4).trans rfl
 have c6 : W.cell? ⟨b, 6, none⟩ = some (.int .i64 0) := (q0a HM.out 6).trans rfl
 have c7 : W.cell? ⟨b, 7, none⟩ = some (.int .i64 0) := (q0a HM.out 7).trans rfl
 have d0 : W.cell? ⟨b', 0, none⟩ = some (.int .i64 k) := (q0a HM'.out 0).trans rfl
 have d1 : W.cell? ⟨b', 1, none⟩ = some (.int .i64 o) := (q0a HM'.out 1).trans rfl
 have d2 : W.cell? ⟨b', 2, none⟩ = some (.int .i64 n) := (q0a HM'.out 2).trans rfl
 have d3 : W.cell? ⟨b', 3, none⟩ = some (.string s) := (q0a HM'.out 3).trans rfl
 have d4 : W.cell? ⟨b', 4, none⟩ = some (.slice A' l.length c') := (q0a HM'.out 4).trans rfl
 have d6 : W.cell? ⟨b', 6, none⟩ = some (.int .i64 0) := (q0a HM'.out 6).trans rfl
 have d7 : W.cell? ⟨b', 7, none⟩ = some (.int .i64 0) := (q0a HM'.out 7).trans rfl
 have lb := q0c HM.out
 have lb' := q0c HM'.out
 go_wp2_with fail
 clear c0 c1 c2 c3 c4 c6 c7 d0 d1 d2 d3 d4 d6 d7 lb lb'
 go_loopg [7, 8] (l.length + 1) (fun g vi v8 wr => ∃ (k : Nat) (V : World), k + g = l.length + 1 /\ k <= l.length /\ vi = .int .i64 k /\ V = wr /\ Hid (Below W.heap.size W V))
 case atStart => exact ⟨0, _, by omega, by omega, rfl, rfl, q0h (Below.refl _ _)⟩
 case round =>
  obtain ⟨i, V, hig, hi, rfl, rfl, HR⟩ := hrel
  cases gk with
  | zero => exfalso; omega
  | succ g =>
   have hm := (HR.out.block b (q0c HM.out)).trans HM.out
   have hm' := (HR.out.block b' (q0c HM'.out)).trans HM'.out
   have c4 : V.cell? ⟨b, 4, none⟩ = some (.slice A l.length c) := (q0a hm 4).trans rfl
   have d4 : V.cell? ⟨b', 4, none⟩ = some (.slice A' l.length c') := (q0a hm' 4).trans rfl
   have lb := q0c hm
   have lb' := q0c hm'
   clear hm hm'
   by_cases hlt : i < l.length
   ·obtain ⟨ad, q0, q1, q2, q3, qA, qn, qc, q5, q6, q7, rfl, HKx, y0, y1, y2, y3, y4, y5, y6, y7⟩ := q6y (Kd.C_below HC.out HR.out) i hlt
    obtain ⟨ad', p0, p1, p2, p3, pA, pn, pc, p5, p6, p7, rfl, HKy, v0, v1, v2, v3, v4, v5, v6, v7⟩ := q6y (Kd.C_below HC'.out HR.out) i hlt
    have HIi := q0h (HI.out i hlt)
    go_wp2_with fail
    refine q5y (by kernel_rfl) (by kernel_rfl) ?_
    iterate 11 (refine q8n (by rfl) (fun w' hC => by have u4 := q0b hC c4; have w4 := q0b hC d4; have uy0 := q0b hC y0; have uv0 := q0b hC v0; have uy1 := q0b hC y1; have uv1 := q0b hC v1; have uy2 := q0b hC y2; have uv2 := q0b hC v2; have uy3 := q0b hC y3; have uv3 := q0b hC v3; have uy4 := q0b hC y4; have uv4 := q0b hC v4; have uy5 := q0b hC y5; have uv5 := q0b hC v5; have uy6 := q0b hC y6; have uv6 := q0b hC v6; have uy7 := q0b hC y7; have uv7 := q0b hC v7; clear hC; go_simp; with_reducible rfl) ?_; go_simp)
    refine z7p #[.agg #[.int .i64 q0, .int .i64 q1, .int .i64 q2, .string q3, .slice qA qn qc, .int .i64 q5, .int .i64 q6, .int .i64 q7], .agg #[.int .i64 p0, .int .i64 p1, .int .i64 p2, .string p3, .slice pA pn pc, .int .i64 p5, .int .i64 p6, .int .i64 p7], .bool false] (by rfl) Tryz.func45 (by kernel_rfl) rfl rfl (by simp only [List.map_toArray, List.map_cons, List.map_nil]; rfl) (fun w' hC => (HIi.out _ _ w' (kEx.K_below hC HKx.out) (kEx.K_below hC HKy.out)).mono (by rintro e w1 ⟨rfl, hb⟩; exact ⟨rfl, q0e hC hb⟩)) ?_
    go_simp
    refine q8n (by rfl) (fun w' hC => by skip; clear hC; go_simp; with_reducible rfl) ?_
    go_simp
    refine wpQuiet_nil ?_
    intro w1 hw1
    have HR1 := q0h (HR.out.trans (hw1.mono HR.out.size))
    clear hw1 y0 y1 y2 y3 y4 y5 y6 y7 v0 v1 v2 v3 v4 v5 v6 v7 c4 d4 lb lb'
    go_wp2_with fail
    go_roundg g
    case measure => omega
    case rel => exact ⟨i + 1, _, by omega, by omega, by go_num, rfl, HR1⟩
   ·have hie : i = l.length := by omega
    go_wp2_with fail
    go_ret
    exact ⟨rfl, HBW.out.trans (HR.out.mono HBW.out.size)⟩
theorem x8j : ∀ (N : Nat) (e x : Ex), SizeOf.sizeOf e <= N -> EOK True e -> EOK True x -> q2c e = q2c x -> SmX e x
 | 0, e, x, h, _, _, _ => by cases e; simp at h
 | N + 1, .mk k o n s l a t p, .mk k' o' n' s' l' a' t' p', h, h1, h2, hb => by
  obtain ⟨q1, q2, q3⟩ := h1.args
  obtain ⟨r1, r2, r3⟩ := h2.args
  obtain ⟨rfl, rfl⟩ := q3 trivial
  obtain ⟨rfl, rfl⟩ := r3 trivial
  have hb2 : Ex.mk k o n s (q2t l) 0 0 0 = Ex.mk k' o' n' s' (q2t l') 0 0 0 := hb
  injection hb2 with e1 e2 e3 e4 e5
  subst e1 e2 e3 e4
  rw [q5p, q5p] at e5
  obtain ⟨e6, e7⟩ := q5d q2c zEx e5
  refine x8i k o n s l l' a a' e6 q2 (fun i hi => ?_)
  have g1 := q1a l zEx i hi _ rfl
  have g2 := q1a l' zEx i (by omega) _ rfl
  refine x8j N _ _ ?_ (q1 _ g1) (r1 _ g2) (e7 i hi)
  have := List.sizeOf_lt_of_mem g1
  simp only [Ex.mk.sizeOf_spec] at h
  omega
theorem SOK.parts {R : Prop} {k : Int} {s : ByteArray} {ty : Int} {es : List Ex} {b l : List St} {a p : Int} (h : SOK R (.mk k s ty es b l a p)) : (∀ e ∈ es, EOK R e) /\ es.length <= 2 /\ ((∀ x ∈ b, SOK R x) /\ b.length <= 400) /\ ((∀ x ∈ l, SOK R x) /\ l.length <= 400) /\ (R -> p = 0) := by
 have no : (∀ x ∈ ([] : List St), SOK R x) /\ ([] : List St).length <= 400 := ⟨(fun x hx => by cases hx), by decide⟩
 have on : ∀ {e : Ex}, EOK R e -> ∀ x ∈ [e], EOK R x := fun he x hx => by rw [List.mem_singleton.1 hx]; exact he
 cases h with
 | lt _ _ he h => exact ⟨on he, by show 1 <= 2; omega, no, no, h⟩
 | set _ he h => exact ⟨on he, by show 1 <= 2; omega, no, no, h⟩
 | put _ hi he h =>
  refine ⟨fun x hx => ?_, by show 2 <= 2; omega, no, no, h⟩
  rcases List.mem_cons.1 hx with rfl | hx
  ·exact hi
  ·exact on he x hx
 | iff he h1 h2 h3 h4 h => exact ⟨on he, by show 1 <= 2; omega, ⟨h3, h1⟩, ⟨h4, h2⟩, h⟩
 | whl he h1 h3 h => exact ⟨on he, by show 1 <= 2; omega, ⟨h3, h1⟩, no, h⟩
 | ret0 h => exact ⟨(fun x hx => by cases hx), by show 0 <= 2; omega, no, no, h⟩
 | ret he h => exact ⟨on he, by show 1 <= 2; omega, no, no, h⟩
 | call _ he h => exact ⟨on he, by show 1 <= 2; omega, no, no, h⟩
def SmL (l l' : List St) : Prop := ∀ (A A' : Option Addr) (c c' : Nat) (w : World), kSt.C w A l.length l -> kSt.C w A' l.length l' -> Calls Tryz.prog 21 #[.slice A l.length c, .slice A' l.length c', .bool false] w fun r w' => r = .returned (.bool true) /\ Below w.heap.size w w'
def j8s (s x : St) : Prop := ∃ k nm ty es es' b b' e e' a a', s = .mk k nm ty es b e a 0 /\ x = .mk k nm ty es' b' e' a' 0 /\ es'.length = es.length /\ es.length <= 2 /\ (∀ i, i < es.length -> SmX (es.getD i zEx) (es'.getD i zEx)) /\ (b'.length = b.length /\ SmL b b') /\ (e'.length = e.length /\ SmL e e')
theorem x3t (l l' : List St) (hl : l'.length = l.length) (hle : l.length <= 400) (hp : ∀ i, i < l.length -> j8s (l.getD i zSt) (l'.getD i zSt)) : SmL l l' := by
 intro A A' c c' w hC hC'
 have HC := q0h hC
 have HC' := q0h hC'
 have HP := q0h hp
 clear hC hC' hp hl
 go_enter Tryz.func21, Tryz.ntmps21
 go_wp2_with fail
 go_loopg [7, 8, 9, 10, 11, 12, 13] (l.length + 1) (fun g vi v8 v9 v10 v11 v12 v13 wr => ∃ (k : Nat) (V : World), k + g = l.length + 1 /\ k <= l.length /\ vi = .int .i64 k /\ V = wr /\ Hid (Below w.heap.size w V))
 case atStart => exact ⟨0, _, by omega, by omega, rfl, rfl, q0h (Below.refl _ _)⟩
 case round =>
  obtain ⟨i, V, hig, hi, rfl, rfl, HR⟩ := hrel
  cases gk with
  | zero => exfalso; omega
  | succ g =>
   by_cases hlt : i < l.length
   ·obtain ⟨ad, xk, xs, xt, xA, xn, xc, xA1, xn1, xc1, xA2, xn2, xc2, xa, xp, rfl, HKx, y0, y1, y2, y3, y4, y5, y6, y7⟩ := x6d (Kd.C_below HC.out HR.out) i hlt
    obtain ⟨ad', zk, zs, zt, zA, zn, zc, zA1, zn1, zc1, zA2, zn2, zc2, za, zp, rfl, HKy, v0, v1, v2, v3, v4, v5, v6, v7⟩ := x6d (Kd.C_below HC'.out HR.out) i hlt
    obtain ⟨k, nm, ty, es, es', b, b', e, e', a, a', h1, h2, he, hes, hE, ⟨hbl, hB⟩, ⟨hel, hL⟩⟩ := HP.out i hlt
    rw [h1] at HKx
    rw [h2] at HKy
    obtain ⟨_, _, _, _, _, _, h5, kC, kC1, kC2⟩ := q3y HKx.out
    cases h5
    obtain ⟨_, _, _, _, _, _, h5, kC', kC1', kC2'⟩ := q3y HKy.out
    cases h5
    rw [he] at kC' v3
    rw [hbl] at kC1' v4
    rw [hel] at kC2' v5
    have l1 := World.block_lt_of_cell? V _ y0
    have l2 := World.block_lt_of_cell? V _ v0
    have HE := q0h hE
    have HB := q0h hB
    have HL := q0h hL
    have HKC := q0h kC
    have HKC1 := q0h kC1
    have HKC2 := q0h kC2
    have HKD := q0h kC'
    have HKD1 := q0h kC1'
    have HKD2 := q0h kC2'
    clear hE hB hL kC kC1 kC2 kC' kC1' kC2' h1 h2 he hbl hel HKx HKy
    obtain ⟨W, hW⟩ : ∃ W, W = (V.alloc (.cells #[.int .i64 xk, .string xs, .int .i64 xt, .slice xA es.length xc, .slice xA1 b.length xc1, .slice xA2 e.length xc2, .int .i64 xa, .int .i64 0] 67)).alloc (.cells #[.int .i64 xk, .string xs, .int .i64 xt, .slice zA es.length zc, .slice zA1 b.length zc1, .slice zA2 e.length zc2, .int .i64 za, .int .i64 0] 67) := ⟨_, rfl⟩
    obtain ⟨p, hp⟩ : ∃ b, b = V.heap.size := ⟨_, rfl⟩
    obtain ⟨p', hp'⟩ : ∃ b, b = V.heap.size + 1 := ⟨_, rfl⟩
    have hba : Below V.heap.size V W := by rw [hW]; exact q0d (q0d (Below.refl _ _) _) _
    have HM := q0h (show W.heap[p]? = some (.cells #[.int .i64 xk, .string xs, .int .i64 xt, .slice xA es.length xc, .slice xA1 b.length xc1, .slice xA2 e.length xc2, .int .i64 xa, .int .i64 0] 67 (0, 0)) by rw [hW, hp]; exact (Below.heap_alloc _ _ _ (by simp)).trans (heap_alloc_new _ _))
    have HM' := q0h (show W.heap[p']? = some (.cells #[.int .i64 xk, .string xs, .int .i64 xt, .slice zA es.length zc, .slice zA1 b.length zc1, .slice zA2 e.length zc2, .int .i64 za, .int .i64 0] 67 (0, 0)) by
     have h := heap_alloc_new (V.alloc (.cells #[.int .i64 xk, .string xs, .int .i64 xt, .slice xA es.length xc, .slice xA1 b.length xc1, .slice xA2 e.length xc2, .int .i64 xa, .int .i64 0] 67)) (.cells #[.int .i64 xk, .string xs, .int .i64 xt, .slice zA es.length zc, .slice zA1 b.length zc1, .slice zA2 e.length zc2, .int .i64 za, .int .i64 0] 67)
     rw [show (V.alloc (.cells #[.int .i64 xk, .string xs, .int .i64 xt, .slice xA es.length xc, .slice xA1 b.length xc1, .slice xA2 e.length xc2, .int .i64 xa, .int .i64 0] 67)).heap.size = p' by rw [hp']; simp] at h
     rw [hW]; exact h)
    have HBA := q0h hba
    have HW := q0h hW
    have HPP := q0h hp
    have HPP' := q0h hp'
    clear hba hW hp hp'
    go_upto_region 8 with fail
    rw [<- HW.out, <- HPP'.out, <- HPP.out]
    clear y0 y1 y2 y3 y4 y5 y6 y7 v0 v1 v2 v3 v4 v5 v6 v7 l1 l2
    have c0 : W.cell? ⟨p, 0, none⟩ = some (.int .i64 xk) := (q0a HM.out 0).trans rfl
    have c1 : W.cell? ⟨p, 1, none⟩ = some (.string xs) := (q0a HM.out 1).trans rfl
    have c2 : W.cell? ⟨p, 2, none⟩ = some (.int .i64 xt) := (q0a HM.out 2).trans rfl
    have c3 : W.cell? ⟨p, 3, none⟩ = some (.slice xA es.length xc) := (q0a HM.out 3).trans rfl
    have c7 : W.cell? ⟨p, 7, none⟩ = some (.int .i64 0) := (q0a HM.out 7).trans rfl
    have d0 : W.cell? ⟨p', 0, none⟩ = some (.int .i64 xk) := (q0a HM'.out 0).trans rfl
    have d1 : W.cell? ⟨p', 1, none⟩ = some (.string xs) := (q0a HM'.out 1).trans rfl
    have d2 : W.cell? ⟨p', 2, none⟩ = some (.int .i64 xt) := (q0a HM'.out 2).trans rfl
    have d3 : W.cell? ⟨p', 3, none⟩ = some (.slice zA es.length zc) := (q0a HM'.out 3).trans rfl
    have d7 : W.cell? ⟨p', 7, none⟩ = some (.int .i64 0) := (q0a HM'.out 7).trans rfl
    have lb := q0c HM.out
    have lb' := q0c HM'.out
    go_wp2_with fail
    clear c0 c1 c2 c3 c7 d0 d1 d2 d3 d7 lb lb'
    go_loopg [10, 11] (es.length + 1) (fun g2 vi v11 wr => ∃ (k : Nat) (U : World), k + g2 = es.length + 1 /\ k <= es.length /\ vi = .int .i64 k /\ U = wr /\ Hid (Below W.heap.size W U))
    case atStart => exact ⟨0, _, by omega, by omega, rfl, rfl, q0h (Below.refl _ _)⟩
    case round =>
     obtain ⟨j, U, hjg, hj, rfl, rfl, HU⟩ := hrel
     have HVU := q0h (HBA.out.trans (HU.out.mono HBA.out.size))
     cases gk with
     | zero => exfalso; omega
     | succ g2 =>
      have hm := (HU.out.block p (q0c HM.out)).trans HM.out
      have hm' := (HU.out.block p' (q0c HM'.out)).trans HM'.out
      have HMU := q0h hm
      have HMU' := q0h hm'
      have c3 : U.cell? ⟨p, 3, none⟩ = some (.slice xA es.length xc) := (q0a hm 3).trans rfl
      have d3 : U.cell? ⟨p', 3, none⟩ = some (.slice zA es.length zc) := (q0a hm' 3).trans rfl
      have lb := q0c hm
      have lb' := q0c hm'
      clear hm hm'
      by_cases hlt2 : j < es.length
      ·obtain ⟨ae, q0, q1, q2, q3, qA, qn, qc, q5, q6, q7, rfl, HKx, y0, y1, y2, y3, y4, y5, y6, y7⟩ := q6y (Kd.C_below HKC.out HVU.out) j hlt2
       obtain ⟨ae', p0, p1, p2, p3, pA, pn, pc, p5, p6, p7, rfl, HKy, v0, v1, v2, v3, v4, v5, v6, v7⟩ := q6y (Kd.C_below HKD.out HVU.out) j hlt2
       have HIi := q0h (HE.out j hlt2)
       go_wp2_with fail
       refine q5y (by kernel_rfl) (by kernel_rfl) ?_
       iterate 11 (refine q8n (by rfl) (fun w' hC => by have u3 := q0b hC c3; have w3 := q0b hC d3; have uy0 := q0b hC y0; have uv0 := q0b hC v0; have uy1 := q0b hC y1; have uv1 := q0b hC v1; have uy2 := q0b hC y2; have uv2 := q0b hC v2; have uy3 := q0b hC y3; have uv3 := q0b hC v3; have uy4 := q0b hC y4; have uv4 := q0b hC v4; have uy5 := q0b hC y5; have uv5 := q0b hC v5; have uy6 := q0b hC y6; have uv6 := q0b hC v6; have uy7 := q0b hC y7; have uv7 := q0b hC v7; clear hC; go_simp; with_reducible rfl) ?_; go_simp)
       refine z7p #[.agg #[.int .i64 q0, .int .i64 q1, .int .i64 q2, .string q3, .slice qA qn qc, .int .i64 q5, .int .i64 q6, .int .i64 q7], .agg #[.int .i64 p0, .int .i64 p1, .int .i64 p2, .string p3, .slice pA pn pc, .int .i64 p5, .int .i64 p6, .int .i64 p7], .bool false] (by rfl) Tryz.func45 (by kernel_rfl) rfl rfl (by simp only [List.map_toArray, List.map_cons, List.map_nil]; rfl) (fun w' hC => (HIi.out _ _ w' (kEx.K_below hC HKx.out) (kEx.K_below hC HKy.out)).mono (by rintro e w1 ⟨rfl, hb⟩; exact ⟨rfl, q0e hC hb⟩)) ?_
       go_simp
       refine q8n (by rfl) (fun w' hC => by skip; clear hC; go_simp; with_reducible rfl) ?_
       go_simp
       refine wpQuiet_nil ?_
       intro w1 hw1
       have HU1 := q0h (HU.out.trans (hw1.mono HU.out.size))
       clear hw1 y0 y1 y2 y3 y4 y5 y6 y7 v0 v1 v2 v3 v4 v5 v6 v7 c3 d3 lb lb'
       go_wp2_with fail
       go_roundg g2
       case measure => omega
       case rel => exact ⟨j + 1, _, by omega, by omega, by go_num, rfl, HU1⟩
      ·have hje : j = es.length := by omega
       have c4 : U.cell? ⟨p, 4, none⟩ = some (.slice xA1 b.length xc1) := (q0a HMU.out 4).trans rfl
       have d4 : U.cell? ⟨p', 4, none⟩ = some (.slice zA1 b.length zc1) := (q0a HMU'.out 4).trans rfl
       go_wp2_with fail
       refine (HB.out _ _ _ _ U (Kd.C_below HKC1.out HVU.out) (Kd.C_below HKD1.out HVU.out)).mono ?_
       rintro r w1 ⟨rfl, hb1⟩
       have HX := q0h (HVU.out.trans (hb1.mono HVU.out.size))
       have hm := (hb1.block p (q0c HMU.out)).trans HMU.out
       have hm' := (hb1.block p' (q0c HMU'.out)).trans HMU'.out
       clear c3 d3 c4 d4 lb lb' hb1
       have c5 : w1.cell? ⟨p, 5, none⟩ = some (.slice xA2 e.length xc2) := (q0a hm 5).trans rfl
       have d5 : w1.cell? ⟨p', 5, none⟩ = some (.slice zA2 e.length zc2) := (q0a hm' 5).trans rfl
       have lb := q0c hm
       have lb' := q0c hm'
       clear hm hm'
       go_wp2_with fail
       clear c5 d5 lb lb'
       refine (HL.out _ _ _ _ w1 (Kd.C_below HKC2.out HX.out) (Kd.C_below HKD2.out HX.out)).mono ?_
       rintro r w2 ⟨rfl, hb2⟩
       have HR2 := q0h (HR.out.trans ((HX.out.trans (hb2.mono HX.out.size)).mono HR.out.size))
       clear hb2
       go_wp2_with fail
       go_roundg g
       case measure => omega
       case rel => exact ⟨i + 1, _, by omega, by omega, by go_num, rfl, HR2⟩
   ·have hie : i = l.length := by omega
    go_wp2_with fail
    go_ret
    exact ⟨rfl, HR.out⟩
theorem x0j : ∀ (N : Nat) (l l' : List St), SizeOf.sizeOf l <= N -> (∀ s ∈ l, SOK True s) -> (∀ s ∈ l', SOK True s) -> l.length <= 400 -> l.map q6s = l'.map q6s -> SmL l l'
 | 0, l, l', h, _, _, _, _ => by cases l <;> simp at h
 | N + 1, l, l', h, h1, h2, hle, hb => by
  obtain ⟨e6, e7⟩ := q5d q6s zSt hb
  refine x3t l l' e6 hle (fun i hi => ?_)
  have g1 := q1a l zSt i hi _ rfl
  have g2 := q1a l' zSt i (by omega) _ rfl
  have hz := List.sizeOf_lt_of_mem g1
  have k1 := h1 _ g1
  have k2 := h2 _ g2
  have kb := e7 i hi
  generalize l.getD i zSt = s at *
  generalize l'.getD i zSt = x at *
  obtain ⟨k, nm, ty, es, b, e, a, p⟩ := s
  obtain ⟨k', nm', ty', es', b', e', a', p'⟩ := x
  obtain ⟨q1, q2, ⟨q3, q4⟩, ⟨q5, q6⟩, q7⟩ := k1.parts
  obtain ⟨r1, r2, ⟨r3, r4⟩, ⟨r5, r6⟩, r7⟩ := k2.parts
  obtain rfl := q7 trivial
  obtain rfl := r7 trivial
  have hb2 : St.mk k nm ty (q2t es) (q2h b) (q2h e) 0 0 = St.mk k' nm' ty' (q2t es') (q2h b') (q2h e') 0 0 := kb
  injection hb2 with e1 e2 e3 e4 e5 e8
  subst e1 e2 e3
  rw [q5p, q5p] at e4
  rw [q4u, q4u] at e5 e8
  obtain ⟨f1, f2⟩ := q5d q2c zEx e4
  simp only [St.mk.sizeOf_spec] at hz
  refine ⟨k, nm, ty, es, es', b, b', e, e', a, a', rfl, rfl, f1, q2, (fun j hj => ?_), ⟨(q5d q6s zSt e5).1, x0j N b b' (by omega) q3 r3 q4 e5⟩, (q5d q6s zSt e8).1, x0j N e e' (by omega) q5 r5 q6 e8⟩
  exact x8j _ _ _ (Nat.le_refl _) (q1 _ (q1a es zEx j hj _ rfl)) (r1 _ (q1a es' zEx j (by omega) _ rfl)) (f2 j hj)
theorem j8t (s : ByteArray) (a b c d : Int) (W : World) : (binOp .neq 40 (.agg #[.string s, .int .i64 a, .int .i64 b, .int .i64 c, .int .i64 d]) (.agg #[.string s, .int .i64 a, .int .i64 b, .int .i64 c, .int .i64 d])).run Tryz.prog W = .ok (.bool false) W := by
 rw [run_neq_struct]
 have h : (Op.equalIn 10000 40 (.agg #[.string s, .int .i64 a, .int .i64 b, .int .i64 c, .int .i64 d]) (.agg #[.string s, .int .i64 a, .int .i64 b, .int .i64 c, .int .i64 d])).run Tryz.prog W = .ok (s.toList == s.toList && (a == a && (b == b && (c == c && d == d)))) W := by
  refine j1z Tryz.underlying40 (by kernel_rfl) ?_
  refine q9g (by rfl) (a := .string s) (b := .string s) (by go_simp) (by go_simp) (by go_simp) ?_
  refine q9g (by rfl) (a := .int .i64 a) (b := .int .i64 a) (by go_simp) (by go_simp) (by go_simp) ?_
  refine q9g (by rfl) (a := .int .i64 b) (b := .int .i64 b) (by go_simp) (by go_simp) (by go_simp) ?_
  refine q9g (by rfl) (a := .int .i64 c) (b := .int .i64 c) (by go_simp) (by go_simp) (by go_simp) ?_
  exact x0l (by rfl) (a := .int .i64 d) (b := .int .i64 d) (by go_simp) (by go_simp) (by go_simp)
 rw [h]; simp
theorem j8u (s : ByteArray) (a : Int) (W : World) : (binOp .neq 49 (.agg #[.string s, .int .i64 a]) (.agg #[.string s, .int .i64 a])).run Tryz.prog W = .ok (.bool false) W := by
 rw [run_neq_struct]
 have h : (Op.equalIn 10000 49 (.agg #[.string s, .int .i64 a]) (.agg #[.string s, .int .i64 a])).run Tryz.prog W = .ok (s.toList == s.toList && a == a) W := by
  refine j1z Tryz.underlying49 (by kernel_rfl) ?_
  refine q9g (by rfl) (a := .string s) (b := .string s) (by go_simp) (by go_simp) (by go_simp) ?_
  exact x0l (by rfl) (a := .int .i64 a) (b := .int .i64 a) (by go_simp) (by go_simp) (by go_simp)
 rw [h]; simp
theorem j1r (vs vs' : List Vr) (fs fs' : List Fc) (lv : vs.length <= 64) (lf : fs.length <= 64) (hfs : ∀ f ∈ fs, FOK True f) (hfs' : ∀ f ∈ fs', FOK True f) (hb1 : vs.map z0m = vs'.map z0m) (hb2 : fs.map q8o = fs'.map q8o) (A A1 B B1 : Option Addr) (c c1 k k1 : Nat) (w : World) (hV : kVr.C w A vs.length vs) (hF : kFc.C w A1 fs.length fs) (hV' : kVr.C w B vs'.length vs') (hF' : kFc.C w B1 fs'.length fs') :
  Calls Tryz.prog 13 #[.agg #[.slice A vs.length c, .slice A1 fs.length c1], .agg #[.slice B vs'.length k, .slice B1 fs'.length k1], .bool false] w fun r w' => r = .returned (.bool true) /\ Below w.heap.size w w' := by
 obtain ⟨vl, hvp⟩ := q5d z0m zVr hb1
 obtain ⟨fl, hfp⟩ := q5d q8o zFc hb2
 have HFO := q0h hfs
 have HFO' := q0h hfs'
 rw [vl] at hV' ⊢
 rw [fl] at hF' ⊢
 obtain ⟨W, hW⟩ : ∃ W, W = (w.alloc (.cells #[.slice A vs.length c, .slice A1 fs.length c1] 25)).alloc (.cells #[.slice B vs.length k, .slice B1 fs.length k1] 25) := ⟨_, rfl⟩
 obtain ⟨b, hbb⟩ : ∃ b, b = w.heap.size := ⟨_, rfl⟩
 obtain ⟨b', hbb'⟩ : ∃ b, b = w.heap.size + 1 := ⟨_, rfl⟩
 have hba : Below w.heap.size w W := by rw [hW]; exact q0d (q0d (Below.refl _ _) _) _
 have HM := q0h (show W.heap[b]? = some (.cells #[.slice A vs.length c, .slice A1 fs.length c1] 25 (0, 0)) by rw [hW, hbb]; exact (Below.heap_alloc _ _ _ (by simp)).trans (heap_alloc_new _ _))
 have HM' := q0h (show W.heap[b']? = some (.cells #[.slice B vs.length k, .slice B1 fs.length k1] 25 (0, 0)) by
  have h := heap_alloc_new (w.alloc (.cells #[.slice A vs.length c, .slice A1 fs.length c1] 25)) (.cells #[.slice B vs.length k, .slice B1 fs.length k1] 25)
  rw [show (w.alloc (.cells #[.slice A vs.length c, .slice A1 fs.length c1] 25)).heap.size = b' by rw [hbb']; simp] at h
  rw [hW]; exact h)
 have HBA := q0h hba
 have HV := q0h (Kd.C_below hV hba)
 have HV' := q0h (Kd.C_below hV' hba)
 have HF := q0h (Kd.C_below hF hba)
 have HF' := q0h (Kd.C_below hF' hba)
 have HVP := q0h hvp
 have HFP := q0h hfp
 have HFL := q0h fl
 have HW := q0h hW
 have HB := q0h hbb
 have HB' := q0h hbb'
 clear hba hW hbb hbb' hV hV' hF hF' hvp hfp vl fl hb1 hb2 hfs hfs'
 go_enter Tryz.func13, Tryz.ntmps13
 go_upto_region 1 with fail
 rw [<- HW.out, <- HB'.out, <- HB.out]
 have c0 : W.cell? ⟨b, 0, none⟩ = some (.slice A vs.length c) := (q0a HM.out 0).trans rfl
 have c1' : W.cell? ⟨b, 1, none⟩ = some (.slice A1 fs.length c1) := (q0a HM.out 1).trans rfl
 have d0 : W.cell? ⟨b', 0, none⟩ = some (.slice B vs.length k) := (q0a HM'.out 0).trans rfl
 have d1 : W.cell? ⟨b', 1, none⟩ = some (.slice B1 fs.length k1) := (q0a HM'.out 1).trans rfl
 have lb := q0c HM.out
 have lb' := q0c HM'.out
 go_wp2_with fail
 clear c0 c1' d0 d1 lb lb'
 go_loopg [7, 8, 9] (vs.length + 1) (fun g vi v8 v9 wr => ∃ (i : Nat) (V : World), i + g = vs.length + 1 /\ i <= vs.length /\ vi = .int .i64 i /\ V = wr /\ Hid (Below W.heap.size W V))
 case atStart => exact ⟨0, _, by omega, by omega, rfl, rfl, q0h (Below.refl _ _)⟩
 case round =>
  obtain ⟨i, V, hig, hi, rfl, rfl, HR⟩ := hrel
  have HN := q0h ((HR.out.block b (q0c HM.out)).trans HM.out)
  have HN' := q0h ((HR.out.block b' (q0c HM'.out)).trans HM'.out)
  cases gk with
  | zero => exfalso; omega
  | succ g =>
   have c0 : V.cell? ⟨b, 0, none⟩ = some (.slice A vs.length c) := (q0a HN.out 0).trans rfl
   have d0 : V.cell? ⟨b', 0, none⟩ = some (.slice B vs.length k) := (q0a HN'.out 0).trans rfl
   have lb := q0c HN.out
   have lb' := q0c HN'.out
   by_cases hlt : i < vs.length
   ·obtain ⟨ad, s, ty, sz, vl, at_, rfl, HKx, y0, y1, y2, y3, y4⟩ := x9q (Kd.C_below HV.out HR.out) i hlt
    obtain ⟨ad', s', ty', sz', vl', at_', rfl, HKy, v0, v1, v2, v3, v4⟩ := x9q (Kd.C_below HV'.out HR.out) i hlt
    have hbv := HVP.out i hlt
    have h1 := q9z HKx.out
    have h2 := q9z HKy.out
    injection h1 with e1 h1; injection h1 with e2 h1; injection h1 with e3 h1; injection h1 with e4 h1; injection h1 with e5 h1
    injection h2 with f1 h2; injection h2 with f2 h2; injection h2 with f3 h2; injection h2 with f4 h2; injection h2 with f5 h2
    injection hbv with g1 g2 g3 g4 g5
    injection e1 with e1; injection e2 with _ e2; injection e3 with _ e3; injection e4 with _ e4
    injection f1 with f1; injection f2 with _ f2; injection f3 with _ f3; injection f4 with _ f4
    obtain rfl : s' = s := by rw [e1, f1, g1]
    obtain rfl : ty' = ty := by rw [e2, f2, g2]
    obtain rfl : sz' = sz := by rw [e3, f3, g3]
    obtain rfl : vl' = vl := by rw [e4, f4, g4]
    clear e1 e2 e3 e4 e5 f1 f2 f3 f4 f5 g1 g2 g3 g4 h1 h2 HKx HKy
    have l1 := World.block_lt_of_cell? V _ y0
    have l2 := World.block_lt_of_cell? V _ v0
    have hneq := fun W => j8t s' ty' sz' vl' 0 W
    obtain ⟨W2, hW2⟩ : ∃ W, W = (V.alloc (.cells #[.string s', .int .i64 ty', .int .i64 sz', .int .i64 vl', .int .i64 0] 40)).alloc (.cells #[.string s', .int .i64 ty', .int .i64 sz', .int .i64 vl', .int .i64 0] 40) := ⟨_, rfl⟩
    obtain ⟨p, hp⟩ : ∃ b, b = V.heap.size := ⟨_, rfl⟩
    obtain ⟨q, hq⟩ : ∃ b, b = V.heap.size + 1 := ⟨_, rfl⟩
    have hba : Below V.heap.size V W2 := by rw [hW2]; exact q0d (q0d (Below.refl _ _) _) _
    have HPB := q0h (show W2.heap[p]? = some (.cells #[.string s', .int .i64 ty', .int .i64 sz', .int .i64 vl', .int .i64 0] 40 (0, 0)) by rw [hW2, hp]; exact (Below.heap_alloc _ _ _ (by simp)).trans (heap_alloc_new _ _))
    have HQB := q0h (show W2.heap[q]? = some (.cells #[.string s', .int .i64 ty', .int .i64 sz', .int .i64 vl', .int .i64 0] 40 (0, 0)) by
     have h := heap_alloc_new (V.alloc (.cells #[.string s', .int .i64 ty', .int .i64 sz', .int .i64 vl', .int .i64 0] 40)) (.cells #[.string s', .int .i64 ty', .int .i64 sz', .int .i64 vl', .int .i64 0] 40)
     rw [show (V.alloc (.cells #[.string s', .int .i64 ty', .int .i64 sz', .int .i64 vl', .int .i64 0] 40)).heap.size = q by rw [hq]; simp] at h
     rw [hW2]; exact h)
    have HBA2 := q0h hba
    have HW2 := q0h hW2
    have HP2 := q0h hp
    have HQ2 := q0h hq
    clear hba hW2 hp hq
    go_upto_region 11 with fail
    rw [<- HW2.out, <- HQ2.out, <- HP2.out]
    clear y0 y1 y2 y3 y4 v0 v1 v2 v3 v4 l1 l2 c0 d0 lb lb'
    have y0 : W2.cell? ⟨p, 0, none⟩ = some (.string s') := (q0a HPB.out 0).trans rfl
    have v0 : W2.cell? ⟨q, 0, none⟩ = some (.string s') := (q0a HQB.out 0).trans rfl
    have y1 : W2.cell? ⟨p, 1, none⟩ = some (.int .i64 ty') := (q0a HPB.out 1).trans rfl
    have v1 : W2.cell? ⟨q, 1, none⟩ = some (.int .i64 ty') := (q0a HQB.out 1).trans rfl
    have y2 : W2.cell? ⟨p, 2, none⟩ = some (.int .i64 sz') := (q0a HPB.out 2).trans rfl
    have v2 : W2.cell? ⟨q, 2, none⟩ = some (.int .i64 sz') := (q0a HQB.out 2).trans rfl
    have y3 : W2.cell? ⟨p, 3, none⟩ = some (.int .i64 vl') := (q0a HPB.out 3).trans rfl
    have v3 : W2.cell? ⟨q, 3, none⟩ = some (.int .i64 vl') := (q0a HQB.out 3).trans rfl
    have y4 : W2.cell? ⟨p, 4, none⟩ = some (.int .i64 0) := (q0a HPB.out 4).trans rfl
    have v4 : W2.cell? ⟨q, 4, none⟩ = some (.int .i64 0) := (q0a HQB.out 4).trans rfl
    have l1 := q0c HPB.out
    have l2 := q0c HQB.out
    have HR2 := q0h (HR.out.trans (HBA2.out.mono HR.out.size))
    go_wp2_with fail
    clear y0 y1 y2 y3 y4 v0 v1 v2 v3 v4 l1 l2 hneq
    go_roundg g
    case measure => omega
    case rel => exact ⟨i + 1, _, by omega, by omega, by go_num, rfl, HR2⟩
   ·have hie : i = vs.length := by omega
    clear hie
    go_wp2_with fail
    clear c0 d0 lb lb'
    go_loopg [10, 11, 12, 13, 14, 15] (fs.length + 1) (fun g2 vi v11 v12 v13 v14 v15 wr => ∃ (j : Nat) (U : World), j + g2 = fs.length + 1 /\ j <= fs.length /\ vi = .int .i64 j /\ U = wr /\ Hid (Below W.heap.size W U))
    case atStart => exact ⟨0, _, by omega, by omega, rfl, rfl, HR⟩
    case round =>
     clear HN HN' HR
     obtain ⟨j, U, hjg, hj, rfl, rfl, HR⟩ := hrel
     have HN := q0h ((HR.out.block b (q0c HM.out)).trans HM.out)
     have HN' := q0h ((HR.out.block b' (q0c HM'.out)).trans HM'.out)
     cases gk with
     | zero => exfalso; omega
     | succ g2 =>
      have c0 : U.cell? ⟨b, 1, none⟩ = some (.slice A1 fs.length c1) := (q0a HN.out 1).trans rfl
      have d0 : U.cell? ⟨b', 1, none⟩ = some (.slice B1 fs.length k1) := (q0a HN'.out 1).trans rfl
      have lb := q0c HN.out
      have lb' := q0c HN'.out
      by_cases hltf : j < fs.length
      ·obtain ⟨ad, s0, P1, n1, m1, ty0, P2, n2, m2, at0, P3, n3, m3, rfl, HKx, y0, y1, y2, y3, y4, y5⟩ := x9s (Kd.C_below HF.out HR.out) j hltf
       obtain ⟨ad', s0', P1', n1', m1', ty0', P2', n2', m2', at0', P3', n3', m3', rfl, HKy, v0, v1, v2, v3, v4, v5⟩ := x9s (Kd.C_below HF'.out HR.out) j hltf
       have hbf := HFP.out j hltf
       have hk1 := HFO.out _ (q1a fs zFc j hltf _ rfl)
       have hk2 := HFO'.out _ (q1a fs' zFc j (by have := HFL.out; omega) _ rfl)
       generalize fs.getD j zFc = F at hbf hk1 HKx
       generalize fs'.getD j zFc = F' at hbf hk2 HKy
       obtain ⟨s, ps, ty, bd, ta, lc⟩ := F
       obtain ⟨s', ps', ty', bd', ta', lc'⟩ := F'
       obtain rfl : lc = [] := hk1.lc trivial
       obtain rfl : lc' = [] := hk2.lc trivial
       have hbf2 : Fc.mk s ps ty (q2h bd) 0 [] = Fc.mk s' ps' ty' (q2h bd') 0 [] := hbf
       injection hbf2 with g1 g2' g3 g4
       subst g1 g2' g3
       rw [q4u, q4u] at g4
       have hsl := x0j _ bd bd' (Nat.le_refl _) hk1.bs hk2.bs hk1.bl g4
       have hbl := (q5d q6s zSt g4).1
       have hps := hk1.pl
       obtain ⟨XA, xc, XB, xd, XC, xe, hce, kp, kb⟩ := q7t HKx.out
       cases hce
       obtain ⟨YA, yc, YB, yd, YC, ye, hce, kp', kb'⟩ := q7t HKy.out
       cases hce
       rw [show (⟨s, ps, ty, bd', ta', []⟩ : Fc).body.length = bd.length from hbl] at kb' v3
       have HSL := q0h hsl
       have HKP := q0h (show kPm.C U P1 ps.length ps from kp)
       have HKB := q0h (show kSt.C U P2 bd.length bd from kb)
       have HKP' := q0h (show kPm.C U P1' ps.length ps from kp')
       have HKB' := q0h (show kSt.C U P2' bd.length bd' from kb')
       have hps : ps.length <= 8 := hps
       clear hsl kp kb kp' kb' hk1 hk2 hbl g4 HKx HKy hbf
       have l1 := World.block_lt_of_cell? U _ y0
       have l2 := World.block_lt_of_cell? U _ v0
       obtain ⟨W3, hW3⟩ : ∃ W, W = (U.alloc (.cells #[.string s, .slice P1 ps.length m1, .int .i64 ty, .slice P2 bd.length m2, .int .i64 ta, .slice P3 0 m3] 46)).alloc (.cells #[.string s, .slice P1' ps.length m1', .int .i64 ty, .slice P2' bd.length m2', .int .i64 ta', .slice P3' 0 m3'] 46) := ⟨_, rfl⟩
       obtain ⟨p, hp⟩ : ∃ b, b = U.heap.size := ⟨_, rfl⟩
       obtain ⟨q, hq⟩ : ∃ b, b = U.heap.size + 1 := ⟨_, rfl⟩
       have hba : Below U.heap.size U W3 := by rw [hW3]; exact q0d (q0d (Below.refl _ _) _) _
       have HPB := q0h (show W3.heap[p]? = some (.cells #[.string s, .slice P1 ps.length m1, .int .i64 ty, .slice P2 bd.length m2, .int .i64 ta, .slice P3 0 m3] 46 (0, 0)) by rw [hW3, hp]; exact (Below.heap_alloc _ _ _ (by simp)).trans (heap_alloc_new _ _))
       have HQB := q0h (show W3.heap[q]? = some (.cells #[.string s, .slice P1' ps.length m1', .int .i64 ty, .slice P2' bd.length m2', .int .i64 ta', .slice P3' 0 m3'] 46 (0, 0)) by
        have h := heap_alloc_new (U.alloc (.cells #[.string s, .slice P1 ps.length m1, .int .i64 ty, .slice P2 bd.length m2, .int .i64 ta, .slice P3 0 m3] 46)) (.cells #[.string s, .slice P1' ps.length m1', .int .i64 ty, .slice P2' bd.length m2', .int .i64 ta', .slice P3' 0 m3'] 46)
        rw [show (U.alloc (.cells #[.string s, .slice P1 ps.length m1, .int .i64 ty, .slice P2 bd.length m2, .int .i64 ta, .slice P3 0 m3] 46)).heap.size = q by rw [hq]; simp] at h
        rw [hW3]; exact h)
       have HBA3 := q0h hba
       have HW3 := q0h hW3
       have HP3 := q0h hp
       have HQ3 := q0h hq
       clear hba hW3 hp hq
       go_upto_region 18 with fail
       rw [<- HW3.out, <- HQ3.out, <- HP3.out]
       clear y0 y1 y2 y3 y4 y5 v0 v1 v2 v3 v4 v5 l1 l2 c0 d0 lb lb'
       have y0 : W3.cell? ⟨p, 0, none⟩ = some (.string s) := (q0a HPB.out 0).trans rfl
       have v0 : W3.cell? ⟨q, 0, none⟩ = some (.string s) := (q0a HQB.out 0).trans rfl
       have y1 : W3.cell? ⟨p, 1, none⟩ = some (.slice P1 ps.length m1) := (q0a HPB.out 1).trans rfl
       have v1 : W3.cell? ⟨q, 1, none⟩ = some (.slice P1' ps.length m1') := (q0a HQB.out 1).trans rfl
       have y2 : W3.cell? ⟨p, 2, none⟩ = some (.int .i64 ty) := (q0a HPB.out 2).trans rfl
       have v2 : W3.cell? ⟨q, 2, none⟩ = some (.int .i64 ty) := (q0a HQB.out 2).trans rfl
       have y5 : W3.cell? ⟨p, 5, none⟩ = some (.slice P3 0 m3) := (q0a HPB.out 5).trans rfl
       have v5 : W3.cell? ⟨q, 5, none⟩ = some (.slice P3' 0 m3') := (q0a HQB.out 5).trans rfl
       have l1 := q0c HPB.out
       have l2 := q0c HQB.out
       have HR3 := q0h (HR.out.trans (HBA3.out.mono HR.out.size))
       go_wp2_with fail
       clear y0 y1 y2 y5 v0 v1 v2 v5 l1 l2
       go_loopg [13] (ps.length + 1) (fun g3 vi wr => ∃ (n : Nat) (X : World), n + g3 = ps.length + 1 /\ n <= ps.length /\ vi = .int .i64 n /\ X = wr /\ Hid (Below W3.heap.size W3 X))
       case atStart => exact ⟨0, _, by omega, by omega, rfl, rfl, q0h (Below.refl _ _)⟩
       case round =>
        obtain ⟨n, X, hng, hn, rfl, rfl, HX⟩ := hrel
        have HPX := q0h ((HX.out.block p (q0c HPB.out)).trans HPB.out)
        have HQX := q0h ((HX.out.block q (q0c HQB.out)).trans HQB.out)
        have HUX := q0h (HBA3.out.trans (HX.out.mono HBA3.out.size))
        have y1 : X.cell? ⟨p, 1, none⟩ = some (.slice P1 ps.length m1) := (q0a HPX.out 1).trans rfl
        have v1 : X.cell? ⟨q, 1, none⟩ = some (.slice P1' ps.length m1') := (q0a HQX.out 1).trans rfl
        have l1 := q0c HPX.out
        have l2 := q0c HQX.out
        cases gk with
        | zero => exfalso; omega
        | succ g3 =>
         by_cases hltp : n < ps.length
         ·obtain ⟨ae, r0, r1, rfl, HKx, z0, z1⟩ := x9r (Kd.C_below HKP.out HUX.out) n hltp
          obtain ⟨ae', q0, q1, rfl, HKy, w0, w1⟩ := x9r (Kd.C_below HKP'.out HUX.out) n hltp
          have h1 := z1z HKx.out
          have h2 := z1z HKy.out
          injection h1 with e1 h1; injection h1 with e2 h1
          injection h2 with f1 h2; injection h2 with f2 h2
          injection e1 with e1; injection e2 with _ e2
          injection f1 with f1; injection f2 with _ f2
          obtain rfl : q0 = r0 := by rw [e1, f1]
          obtain rfl : q1 = r1 := by rw [e2, f2]
          clear e1 e2 f1 f2 h1 h2 HKx HKy
          have hneq := fun W => j8u q0 q1 W
          go_wp2_with fail
          go_quiet (fail)
          go_wp2_with fail
          clear z0 z1 w0 w1 hneq y1 v1 l1 l2
          go_roundg g3
          case measure => omega
          case rel => exact ⟨n + 1, _, by omega, by omega, by go_num, rfl, q0h (HX.out.trans ((below_drewN (Below.refl _ _) _).mono HX.out.size))⟩
         ·have hne : n = ps.length := by omega
          clear hne
          have y5 : X.cell? ⟨p, 5, none⟩ = some (.slice P3 0 m3) := (q0a HPX.out 5).trans rfl
          go_wp2_with fail
          go_loopg [14] 1 (fun g4 vi wr => vi = .int .i64 0 /\ X = wr)
          case atStart => exact ⟨rfl, rfl⟩
          case round =>
           obtain ⟨rfl, rfl⟩ := hrel
           have y3 : X.cell? ⟨p, 3, none⟩ = some (.slice P2 bd.length m2) := (q0a HPX.out 3).trans rfl
           have v3 : X.cell? ⟨q, 3, none⟩ = some (.slice P2' bd.length m2') := (q0a HQX.out 3).trans rfl
           go_wp2_with fail
           refine (HSL.out _ _ _ _ X (Kd.C_below HKB.out HUX.out) (Kd.C_below HKB'.out HUX.out)).mono ?_
           rintro r w1 ⟨rfl, hb1⟩
           have HR4 := q0h (HR.out.trans ((HUX.out.trans (hb1.mono HUX.out.size)).mono HR.out.size))
           clear y1 y3 y5 v1 v3 l1 l2 hb1
           go_wp2_with fail
           go_roundg g2
           case measure => omega
           case rel => exact ⟨j + 1, _, by omega, by omega, by go_num, rfl, HR4⟩
      ·have hje : j = fs.length := by omega
       go_wp2_with fail
       go_ret
       exact ⟨rfl, HBA.out.trans (HR.out.mono HBA.out.size)⟩
end Go.Proofs.YtpfdhihbecpbeaaGreatDoor.E
