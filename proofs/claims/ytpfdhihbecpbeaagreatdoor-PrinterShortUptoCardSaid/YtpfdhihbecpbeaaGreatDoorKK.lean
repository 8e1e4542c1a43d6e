import Derived.Test.YtpfdhihbecpbeaaGreatDoorKJ
import Derived.Test.YtpfdhihbecpbeaaGreatDoorKF
import Derived.Test.YtpfdhihbecpbeaaGreatDoorKI
/- Contracts of the program's functions, and lemmas: no statement of its own. -/
namespace Go.Proofs.YtpfdhihbecpbeaaGreatDoor.E
open Go Go.RowKit Go.Proofs.YtpfdhihbecpbeaaGreatDoorW.PrintWords Go.Proofs.YtpfdhihbecpbeaaGreatDoorW.PrintLast Go.Proofs.YtpfdhihbecpbeaaGreatDoorW.PrintMore
set_option linter.unusedVariables false
set_option linter.unusedSimpArgs false
set_option maxRecDepth 100000
set_option maxHeartbeats 4000000
def bareV (v : Vr) : Vr := ⟨v.name, v.type, v.size, v.value, 0⟩
def bareF (f : Fc) : Fc := ⟨f.name, f.params, f.type, bareSs f.body, 0, []⟩
def bareM (m : Md) : Md := ⟨m.vars.map bareV, m.funcs.map bareF⟩
def nsF (f : Fc) : Nat := 1 + (nsSs f.body).foldr max 0
def nsM (m : Md) : Nat := (m.funcs.map nsF).foldr max 0
theorem rd_may {β : Type} {M : Nat} {t : Tok} {r rest : List Tok} {k : Int} {w : List UInt8} (h : tkT t = (k, w)) (h6 : k ≠ 6) (v : List UInt8) {f : Bool -> PM β} {Q : β -> Prop} (hf : Rd M (if (w == v && (k == 2 || k == 5)) = true then f true r else f false (t :: r)) Q rest) : Rd M ((mayP (tx v)).bind f (t :: r)) Q rest := by
 unfold PM.bind
 rw [may_hd h h6]
 by_cases hc : (w == v && (k == 2 || k == 5)) = true
 ·rw [if_pos hc] at hf ⊢; exact hf
 ·rw [if_neg hc] at hf ⊢; exact hf
theorem num_int {t : Tok} {n : Nat} (h : tkT t = (3, Lib.decDigits n)) : numT t = n := by
 unfold numT
 have h1 : t.kind = 3 := congrArg Prod.fst h
 have h2 : toL t.text = Lib.decDigits n := congrArg Prod.snd h
 rw [h1, if_neg (by decide)]
 show (decU (toL t.text) : Int) = n
 rw [h2, decU_dec]
theorem num_fix {t : Tok} {n : Nat} (hn : n < 9223372036854775808) (h : tkT t = (4, fixT n)) : numT t = n := by
 unfold numT
 have h1 : t.kind = 4 := congrArg Prod.fst h
 have h2 : toL t.text = fixT n := congrArg Prod.snd h
 rw [h1, if_pos rfl]
 show (fixP (toL t.text)).getD 0 = n
 rw [h2, (fixP_fixT n hn).1]; rfl
theorem wrap_id (n : Int) (h : -9223372036854775808 <= n /\ n <= 9223372036854775807) : wrap64 n = n := by unfold wrap64; omega
theorem rd_signed {ty v : Int} {ts r : List Tok} {k : Int} {w : List UInt8} (hty : (ty = 1 /\ k = 3) \/ (ty = 2 /\ k = 4)) (hlo : -9223372036854775808 < v) (hhi : v < 9223372036854775808)
  (hnum : ∀ t : Tok, tkT t = (k, w) -> numT t = v.natAbs) (ht : Tk ts ((if v < 0 then [(5, [45])] else []) ++ [(k, w)])) (hw : w ≠ [45]) :
  ((mayP (tx [45])).bind fun b => signedP numT ty (if b then -1 else 1)) (ts ++ r) = some (.ok (v, r)) := by
 have hk : k ≠ 6 /\ k ≠ 0 /\ (k == 2 || k == 5) = false := by rcases hty with ⟨_, rfl⟩ | ⟨_, rfl⟩ <;> decide
 have key : ∀ (t : Tok) (s : Int), tkT t = (k, w) -> s * (v.natAbs : Int) = v -> signedP numT ty s (t :: r) = some (.ok (v, r)) := by
  intro t s h hs
  unfold signedP
  have h1 : t.kind = k := congrArg Prod.fst h
  have eh : (t :: r).headD zTok = t := rfl
  rw [eh, h1, if_neg (by omega), hnum t h, hs, next_hd h hk.1, wrap_id _ (by omega)]
 unfold PM.bind
 by_cases hv : v < 0
 ·rw [if_pos hv] at ht
  obtain ⟨t1, r1, rfl, g1, h2⟩ := Tk.cons (k := 5) (w := [45]) (l := [(k, w)]) ht (by decide)
  obtain ⟨t2, r2, rfl, g2, h3⟩ := h2.cons hk.2.1
  obtain rfl := h3.nil
  rw [show [t1, t2] ++ r = t1 :: t2 :: r from rfl, may_hd g1 (by decide), show (([45] : List UInt8) == [45] && ((5 : Int) == 2 || (5 : Int) == 5)) = true from rfl, if_pos rfl]
  exact key t2 (-1) g2 (by omega)
 ·rw [if_neg hv] at ht
  obtain ⟨t2, r2, rfl, g2, h3⟩ := Tk.cons (k := k) (w := w) (l := []) ht hk.2.1
  obtain rfl := h3.nil
  rw [show [t2] ++ r = t2 :: r from rfl, may_hd g2 hk.1, hk.2.2, Bool.and_false, if_neg (by decide)]
  exact key t2 1 g2 (by omega)
theorem fix_no (n : Nat) : fixT n ≠ [45] := by
 have e0 : fixT n = Lib.decDigits (n / 4294967296) ++ 46 :: fracT 40 (n % 4294967296) := by
  unfold fixT
  rw [if_neg (by omega)]
  simp
 rw [e0]
 intro e
 have := congrArg (fun l => (46 : UInt8) ∈ l) e
 simp at this
theorem dec_no (n : Nat) : Lib.decDigits n ≠ [45] := fun e => by
 have := dec_digs n 45 (by rw [e]; simp)
 exact absurd this.1 (by decide)
theorem rd_var {v : Vr} (h : VOK v) (ts rest : List Tok) (ht : Tk ts (vrI v)) : Rd 0 (variableP numT (ts ++ rest)) (fun x => bareV x = bareV v) rest := by
 obtain ⟨h1, h2, h3, h4, h5⟩ := h.facts
 have ht2 : Tk ts ((2, [118, 97, 114]) :: (0, [32]) :: (1, toL v.name) :: (5, [58]) :: (0, [32]) :: ((if 0 < v.size then [(5, [91]), (3, Lib.itoa v.size), (5, [93]), (0, [32])] else []) ++ (2, tyT v.type) :: (vlI v ++ [(5, [59]), (0, [10])]))) := ht
 obtain ⟨u1, r1, rfl, g1, k1⟩ := ht2.cons (by decide)
 obtain ⟨u2, r2, rfl, g2, k2⟩ := k1.blank.cons (by decide)
 obtain ⟨u3, r3, rfl, g3, k3⟩ := k2.cons (by decide)
 obtain ⟨t4, t5, rfl, k4, k5⟩ := k3.blank.app
 obtain ⟨u5, r5, rfl, g5, k6⟩ := k5.cons (by decide)
 obtain ⟨t6, t7, rfl, k7, k8⟩ := k6.app
 obtain ⟨u6, r6, rfl, g6, k9⟩ := k8.cons (by decide)
 obtain rfl := Tk.nil k9.blank
 have e1 : u1 :: u2 :: u3 :: (t4 ++ u5 :: (t6 ++ [u6])) ++ rest = u1 :: u2 :: u3 :: (t4 ++ u5 :: (t6 ++ u6 :: rest)) := by simp
 rw [e1]
 unfold variableP
 refine rd_must g1 (.inl rfl) (rd_name g2 (rd_must g3 (.inr rfl) ?_))
 by_cases hs : 0 < v.size
 ·rw [if_pos hs] at k4
  obtain ⟨w1, q1, rfl, y1, z1⟩ := k4.cons (by decide)
  obtain ⟨w2, q2, rfl, y2, z2⟩ := z1.cons (by decide)
  obtain ⟨w3, q3, rfl, y3, z3⟩ := z2.cons (by decide)
  obtain rfl := Tk.nil z3.blank
  have hv0 := h5 (.inl hs)
  have ht6 : t6 = [] := Tk.nil (by unfold vlI at k7; rw [if_pos hv0] at k7; exact k7)
  subst ht6
  show Rd 0 (PM.bind _ _ (w1 :: w2 :: w3 :: u5 :: u6 :: rest)) _ _
  refine rd_may y1 (by decide) [91] ?_
  rw [if_pos rfl]
  refine Rd.bind (N := 0) (P := fun x => bareV x = bareV v) (t1 := u6 :: rest) ?_ (Nat.le_refl _) (fun x hx => rd_must g6 (.inr rfl) (Rd.ok hx))
  try rw [if_pos rfl]
  refine Rd.bind (N := 0) (P := fun n => n = v.size) (t1 := w3 :: u5 :: u6 :: rest) ?_ (Nat.le_refl _) ?_
  ·unfold sizeP
   have hk : w2.kind = 3 := congrArg Prod.fst y2
   rw [show v.size = ((v.size.toNat : Nat) : Int) by omega, itoa_nat] at y2
   have hn := num_int y2
   rw [show ((v.size.toNat : Nat) : Int) = v.size by omega] at hn
   have eh : (w2 :: w3 :: u5 :: u6 :: rest).headD zTok = w2 := rfl
   rw [eh, hk, hn, if_neg (by decide), if_neg (by omega), next_hd y2 (by decide)]
   exact Rd.ok rfl
  ·rintro _ rfl
   refine rd_must y3 (.inr rfl) (rd_scalar h2 g5 (Rd.ok ?_))
   show Vr.mk u2.text v.type v.size 0 0 = ⟨v.name, v.type, v.size, v.value, 0⟩
   rw [text_eq g2, hv0]
 ·rw [if_neg hs] at k4
  obtain rfl := Tk.nil k4
  have hs0 : v.size = 0 := by omega
  show Rd 0 (PM.bind _ _ (u5 :: (t6 ++ u6 :: rest))) _ _
  refine rd_may g5 (by decide) [91] ?_
  have hty : (tyT v.type == [91] && ((2 : Int) == 2 || (2 : Int) == 5)) = false := by
   unfold typedB at h2
   rw [decide_eq_true_eq] at h2
   have : v.type = 1 \/ v.type = 2 \/ v.type = 3 \/ v.type = 4 := by omega
   rcases this with q | q | q | q <;> rw [q] <;> decide
  rw [hty, if_neg (by decide)]
  refine Rd.bind (N := 0) (P := fun x => bareV x = bareV v) (t1 := u6 :: rest) ?_ (Nat.le_refl _) (fun x hx => rd_must g6 (.inr rfl) (Rd.ok hx))
  try rw [if_neg (by decide)]
  refine rd_scalar h2 g5 ?_
  by_cases hv0 : v.value = 0
  ·have ht6 : t6 = [] := Tk.nil (by unfold vlI at k7; rw [if_pos hv0] at k7; exact k7)
   subst ht6
   rw [List.nil_append]
   refine rd_may g6 (by decide) [61] ?_
   rw [if_neg (by decide)]
   try rw [if_neg (by decide)]
   refine Rd.ok ?_
   show Vr.mk u2.text v.type 0 0 0 = ⟨v.name, v.type, v.size, v.value, 0⟩
   rw [text_eq g2, hv0, hs0]
  ·unfold vlI at k7
   rw [if_neg hv0] at k7
   obtain ⟨w1, q1, rfl, y1, z1⟩ := k7.blank.cons (by decide)
   show Rd 0 (PM.bind _ _ (w1 :: (q1 ++ u6 :: rest))) _ _
   refine rd_may y1 (by decide) [61] ?_
   rw [if_pos rfl]
   try rw [if_pos rfl]
   refine Rd.bind (N := 0) (P := fun x => x = v.value) (t1 := u6 :: rest) ?_ (Nat.le_refl _) ?_
   ·have z2 := z1.blank
    unfold valueP
    unfold typedB at h2
    rw [decide_eq_true_eq] at h2
    have : v.type = 1 \/ v.type = 2 \/ v.type = 3 \/ v.type = 4 := by omega
    rcases this with q | q | q | q
    ·rw [if_neg (by omega), if_neg (by omega)]
     rw [if_pos (Or.inl q), if_pos q] at z2
     rw [rd_signed (.inl ⟨q, rfl⟩) h.lo h.hi (fun t ht => num_int ht) z2 (dec_no _)]
     exact Rd.ok rfl
    ·rw [if_neg (by omega), if_neg (by omega)]
     rw [if_pos (Or.inr q), if_neg (show ¬ v.type = 1 by omega), if_pos q] at z2
     rw [rd_signed (.inr ⟨q, rfl⟩) h.lo h.hi (fun t ht => num_fix (by have := h.lo; have := h.hi; omega) ht) z2 (fix_no _)]
     exact Rd.ok rfl
    ·rw [if_pos q]
     rw [if_neg (show ¬ (v.type = 1 \/ v.type = 2) by omega), if_neg (show ¬ v.type = 1 by omega), if_neg (show ¬ v.type = 2 by omega)] at z2
     have z3 : Tk q1 [(2, [116, 114, 117, 101])] := z2
     obtain ⟨w2, q2, rfl, y2, z4⟩ := z3.cons (by decide)
     obtain rfl := z4.nil
     refine rd_may y2 (by decide) [116, 114, 117, 101] ?_
     rw [if_pos rfl]
     try rw [if_pos rfl]
     exact Rd.ok ((h.b q).resolve_left hv0).symm
    ·exact absurd (h5 (.inr q)) hv0
   ·rintro _ rfl
    refine Rd.ok ?_
    show Vr.mk u2.text v.type 0 v.value 0 = ⟨v.name, v.type, v.size, v.value, 0⟩
    rw [text_eq g2, hs0]
theorem vr_first (v : Vr) (ts : List Tok) (ht : Tk ts (vrI v)) : ∃ t r, ts = t :: r /\ tkT t = (2, [118, 97, 114]) := by
 have ht2 : ∃ q, Tk ts ((2, [118, 97, 114]) :: q) := ⟨_, ht⟩
 obtain ⟨q, ht2⟩ := ht2
 obtain ⟨u1, r1, e, g1, k1⟩ := ht2.cons (by decide)
 exact ⟨u1, r1, e, g1⟩
theorem rd_vars : ∀ (l : List Vr), (∀ v ∈ l, VOK v) -> ∀ (m : Nat) (acc : List Vr) (ts rest : List Tok), isT (tx [118, 97, 114]) rest = false -> Tk ts (l.map vrI).flatten -> acc.length + l.length <= 64 ->
  Rd 0 (varsL numT m acc (ts ++ rest)) (fun x => ∃ y, x = acc ++ y /\ y.map bareV = l.map bareV) rest
 | [], hk, m, acc, ts, rest, hr, ht, hl => by
  obtain rfl := Tk.nil ht
  cases m with
  | zero => exact .inl rfl
  | succ m =>
   unfold varsL
   rw [List.nil_append, hr]
   exact Rd.ok ⟨[], by simp, rfl⟩
 | v :: l, hk, m, acc, ts, rest, hr, ht, hl => by
  have ht2 : Tk ts (vrI v ++ (l.map vrI).flatten) := ht
  obtain ⟨t1, t2, rfl, h1, h2⟩ := ht2.app
  obtain ⟨th, tr1, he, hh⟩ := vr_first v t1 h1
  cases m with
  | zero => exact .inl rfl
  | succ m =>
   unfold varsL
   have e0 : isT (tx [118, 97, 114]) (t1 ++ t2 ++ rest) = true := by
    rw [he]
    show isT _ (th :: (tr1 ++ t2 ++ rest)) = true
    rw [isT_hd hh]; rfl
   rw [e0, if_pos rfl, if_neg (by simp at hl; omega), List.append_assoc]
   refine Rd.bind (rd_var (hk v List.mem_cons_self) t1 (t2 ++ rest) h1) (Nat.le_refl _) (fun y hy => ?_)
   refine (rd_vars l (fun x hx => hk x (List.mem_cons_of_mem _ hx)) m (acc ++ [y]) t2 rest hr h2 (by simp at hl ⊢; omega)).mono (Nat.le_refl _) ?_
   rintro z ⟨q, rfl, hq⟩
   refine ⟨y :: q, by simp, ?_⟩
   rw [List.map_cons, List.map_cons, hq, hy]
theorem pm_true (l : List Pm) : pmI l true = if l = [] then [] else (5, [44]) :: (0, [32]) :: pmI l false := by
 cases l with
 | nil => rfl
 | cons x l => rw [if_neg (by simp)]; rfl
theorem rd_params : ∀ (l : List Pm), (∀ p ∈ l, nameB p.name = true /\ typedB p.type = true) -> ∀ (m : Nat) (acc : List Pm) (ts rest : List Tok) (tr : Tok), tkT tr = (5, [41]) -> Tk ts (pmI l false) -> acc.length + l.length <= 8 ->
  Rd 0 (rowP (tx [41]) paramP m acc (ts ++ tr :: rest)) (fun x => x = acc ++ l) (tr :: rest)
 | [], hk, m, acc, ts, rest, tr, htr, ht, hl => by
  obtain rfl := Tk.nil ht
  cases m with
  | zero => exact .inl rfl
  | succ m =>
   unfold rowP
   rw [List.nil_append, isT_hd htr, show (([41] : List UInt8) == [41] && ((5 : Int) == 2 || (5 : Int) == 5)) = true from rfl, if_pos rfl]
   exact Rd.ok (by simp)
 | x :: l, hk, m, acc, ts, rest, tr, htr, ht, hl => by
  have ht2 : Tk ts ((1, toL x.name) :: (5, [58]) :: (0, [32]) :: (2, tyT x.type) :: pmI l true) := ht
  obtain ⟨u1, r1, rfl, g1, k1⟩ := ht2.cons (by decide)
  obtain ⟨u2, r2, rfl, g2, k2⟩ := k1.cons (by decide)
  obtain ⟨u3, r3, rfl, g3, k3⟩ := k2.blank.cons (by decide)
  cases m with
  | zero => exact .inl rfl
  | succ m =>
   unfold rowP
   show Rd 0 (if isT (tx [41]) (u1 :: (u2 :: u3 :: (r3 ++ tr :: rest))) then _ else _) _ _
   rw [word_no g1]
   simp only [Bool.false_eq_true, if_false]
   refine Rd.bind (N := 0) (P := fun p => p = x) (t1 := r3 ++ tr :: rest) ?_ (Nat.le_refl _) ?_
   ·unfold paramP
    show Rd 0 (if (u1.kind = 1 /\ acc.length = 8) then _ else _) _ _
    rw [if_neg (by simp at hl; omega)]
    show Rd 0 (PM.bind _ _ (u1 :: u2 :: u3 :: (r3 ++ tr :: rest))) _ _
    refine rd_name g1 (rd_must g2 (.inr rfl) (rd_scalar (hk x List.mem_cons_self).2 g3 (Rd.ok ?_)))
    rw [text_eq g1]
   ·rintro x rfl
    by_cases hl0 : l = []
    ·subst hl0
     obtain rfl := Tk.nil k3
     rw [List.nil_append, isT_hd htr, show (([41] : List UInt8) == [41] && ((5 : Int) == 2 || (5 : Int) == 5)) = true from rfl, if_pos rfl]
     exact Rd.ok rfl
    ·rw [pm_true, if_neg hl0] at k3
     obtain ⟨uc, t3, rfl, hc, h3⟩ := k3.cons (by decide)
     have h4 := h3.blank
     show Rd _ (if isT (tx [41]) (uc :: (t3 ++ tr :: rest)) then _ else _) _ _
     rw [isT_hd hc, show (([44] : List UInt8) == [41] && ((5 : Int) == 2 || (5 : Int) == 5)) = false from rfl]
     simp only [Bool.false_eq_true, if_false]
     refine rd_must hc (.inr rfl) ?_
     have e1 : isT (tx [41]) (t3 ++ tr :: rest) = false := by
      cases l with
      | nil => exact absurd rfl hl0
      | cons z l =>
       have h5 : Tk t3 ((1, toL z.name) :: (5, [58]) :: (0, [32]) :: (2, tyT z.type) :: pmI l true) := h4
       obtain ⟨v1, q1, rfl, y1, _⟩ := h5.cons (by decide)
       exact word_no y1 _
     show Rd 0 (if isT (tx [41]) (t3 ++ tr :: rest) then _ else rowP (tx [41]) paramP m _ (t3 ++ tr :: rest)) _ _
     rw [e1]
     simp only [Bool.false_eq_true, if_false]
     refine (rd_params l (fun x hx => hk x (List.mem_cons_of_mem _ hx)) m (acc ++ [x]) t3 rest tr htr h4 (by simp at hl ⊢; omega)).mono (Nat.le_refl _) ?_
     rintro z rfl
     simp
theorem rd_func {R : Prop} {f : Fc} (h : FOK R f) (n : Nat) (ts rest : List Tok) (ht : Tk ts (fcI f)) : Rd (nsF f) (functionP n (prec numT n) 0 (ts ++ rest)) (fun x => bareF x = bareF f) rest := by
 have ht2 : Tk ts ((2, [102, 110]) :: (0, [32]) :: (1, toL f.name) :: (5, [40]) :: (pmI f.params false ++ (5, [41]) :: ((if f.type = 0 then [] else [(5, [58]), (0, [32]), (2, tyT f.type)]) ++ bodI (itSs f.body) 0 ++ [(0, [10])]))) := ht
 obtain ⟨u1, r1, rfl, g1, k1⟩ := ht2.cons (by decide)
 obtain ⟨u2, r2, rfl, g2, k2⟩ := k1.blank.cons (by decide)
 obtain ⟨u3, r3, rfl, g3, k3⟩ := k2.cons (by decide)
 obtain ⟨t4, t5, rfl, k4, k5⟩ := k3.app
 obtain ⟨u4, r4, rfl, g4, k6⟩ := k5.cons (by decide)
 obtain ⟨t6, t7, rfl, k7, k8⟩ := k6.app
 obtain rfl := Tk.nil k8.blank
 obtain ⟨t8, t9, rfl, k9, k10⟩ := k7.app
 have kb : Tk t9 ((0, [32]) :: (5, [123]) :: (0, [10]) :: (linI (0 + 1) (itSs f.body) ++ [(0, tabsT 0), (5, [125])])) := k10
 obtain ⟨u5, r5, hu5, g5, _⟩ := kb.blank.cons (by decide)
 have e1 : u1 :: u2 :: u3 :: (t4 ++ u4 :: (t8 ++ t9 ++ [])) ++ rest = u1 :: u2 :: u3 :: (t4 ++ u4 :: (t8 ++ (t9 ++ rest))) := by simp
 rw [e1]
 unfold functionP
 refine rd_must g1 (.inl rfl) (rd_name g2 (rd_must g3 (.inr rfl) ?_))
 refine Rd.bind (N := 0) (rd_params f.params h.ps n [] t4 (t8 ++ (t9 ++ rest)) u4 g4 k4 (by have := h.pl; simpa using this)) (Nat.zero_le _) ?_
 rintro ps rfl
 refine rd_must g4 (.inr rfl) ?_
 have hb := rd_block h.bs (fun x hx => sb_all (h.bs x hx)) h.bl n 0 0 t9 rest k10
 have en : nsF f = 0 + (1 + (f.body.map nsS).foldr max 0) := by unfold nsF; rw [nsSs_map]; omega
 rw [en]
 have fin : ∀ ty, ty = f.type -> Rd (0 + (1 + (f.body.map nsS).foldr max 0)) (((prec numT n).block 0).bind (fun l => .ret (⟨u2.text, [] ++ f.params, ty, l, u2.at_, []⟩ : Fc)) (t9 ++ rest)) (fun x => bareF x = bareF f) rest := by
  rintro _ rfl
  refine Rd.bind hb (Nat.le_refl _) (fun l hl => Rd.ok ?_)
  show Fc.mk u2.text ([] ++ f.params) f.type (bareSs l) 0 [] = ⟨f.name, f.params, f.type, bareSs f.body, 0, []⟩
  rw [text_eq g2, hl]; rfl
 by_cases h0 : f.type = 0
 ·rw [if_pos h0] at k9
  obtain rfl := Tk.nil k9
  rw [List.nil_append]
  have e2 : t9 ++ rest = u5 :: (r5 ++ rest) := by rw [hu5]; rfl
  have f0 := fin 0 h0.symm
  rw [e2] at f0 ⊢
  refine rd_may g5 (by decide) [58] ?_
  rw [if_neg (by decide)]
  exact f0
 ·rw [if_neg h0] at k9
  obtain ⟨w1, q1, rfl, y1, z1⟩ := k9.cons (by decide)
  obtain ⟨w2, q2, rfl, y2, z2⟩ := z1.blank.cons (by decide)
  obtain rfl := z2.nil
  show Rd _ (PM.bind _ _ (w1 :: (w2 :: (t9 ++ rest)))) _ _
  refine rd_may y1 (by decide) [58] ?_
  rw [if_pos rfl]
  exact rd_scalar (h.ty.resolve_left h0) y2 (fin _ rfl)
theorem fc_first (f : Fc) (ts : List Tok) (ht : Tk ts (fcI f)) : ∃ t r, ts = t :: r /\ tkT t = (2, [102, 110]) := by
 have ht2 : ∃ q, Tk ts ((2, [102, 110]) :: q) := ⟨_, ht⟩
 obtain ⟨q, ht2⟩ := ht2
 obtain ⟨u1, r1, e, g1, k1⟩ := ht2.cons (by decide)
 exact ⟨u1, r1, e, g1⟩
theorem rd_funcs {R : Prop} : ∀ (l : List Fc), (∀ f ∈ l, FOK R f) -> ∀ (n m : Nat) (acc : List Fc) (ts rest : List Tok), isT (tx [102, 110]) rest = false -> Tk ts (l.map fcI).flatten -> acc.length + l.length <= 64 ->
  Rd ((l.map nsF).foldr max 0) (funcsL n (prec numT n) m acc (ts ++ rest)) (fun x => ∃ y, x = acc ++ y /\ y.map bareF = l.map bareF) rest
 | [], hk, n, m, acc, ts, rest, hr, ht, hl => by
  obtain rfl := Tk.nil ht
  cases m with
  | zero => exact .inl rfl
  | succ m =>
   unfold funcsL
   rw [List.nil_append, hr]
   exact Rd.ok ⟨[], by simp, rfl⟩
 | v :: l, hk, n, m, acc, ts, rest, hr, ht, hl => by
  have ht2 : Tk ts (fcI v ++ (l.map fcI).flatten) := ht
  obtain ⟨t1, t2, rfl, h1, h2⟩ := ht2.app
  obtain ⟨th, tr1, he, hh⟩ := fc_first v t1 h1
  have en : ((v :: l).map nsF).foldr max 0 = max (nsF v) ((l.map nsF).foldr max 0) := rfl
  rw [en]
  cases m with
  | zero => exact .inl rfl
  | succ m =>
   unfold funcsL
   have e0 : isT (tx [102, 110]) (t1 ++ t2 ++ rest) = true := by
    rw [he]
    show isT _ (th :: (tr1 ++ t2 ++ rest)) = true
    rw [isT_hd hh]; rfl
   rw [e0, if_pos rfl, if_neg (by simp at hl; omega), List.append_assoc]
   refine Rd.bind (rd_func (hk v List.mem_cons_self) n t1 (t2 ++ rest) h1) (by omega) (fun y hy => ?_)
   refine (rd_funcs l (fun x hx => hk x (List.mem_cons_of_mem _ hx)) n m (acc ++ [y]) t2 rest hr h2 (by simp at hl ⊢; omega)).mono (by omega) ?_
   rintro z ⟨q, rfl, hq⟩
   refine ⟨y :: q, by simp, ?_⟩
   rw [List.map_cons, List.map_cons, hq, hy]
theorem mod_rd {R : Prop} {m : Md} (h : MOK R m) (n : Nat) (ts : List Tok) (te : Tok) (hte : te.kind = 6) (hx : te.text = ⟨#[]⟩) (ht : Tk ts (mdI m)) : Rd (nsM m) (modP numT n (ts ++ [te])) (fun x => bareM x = bareM m) [te] := by
 have hE : tkT te = (6, []) := by show (te.kind, toL te.text) = _; rw [hte, hx]; rfl
 obtain ⟨t1, t2, rfl, h1, h2⟩ := Tk.app ht
 unfold modP
 rw [List.append_assoc]
 have hr : isT (tx [118, 97, 114]) (t2 ++ [te]) = false := by
  cases hf : m.funcs with
  | nil =>
   rw [hf] at h2
   obtain rfl := Tk.nil h2
   rw [List.nil_append, isT_hd hE]; rfl
  | cons f l =>
   rw [hf] at h2
   have h3 : Tk t2 (fcI f ++ (l.map fcI).flatten) := h2
   obtain ⟨u1, u2, rfl, g1, g2⟩ := h3.app
   obtain ⟨th, tr1, rfl, hh⟩ := fc_first f u1 g1
   show isT _ (th :: (tr1 ++ u2 ++ [te])) = false
   rw [isT_hd hh]; rfl
 refine Rd.bind (rd_vars m.vars h.vs n [] t1 (t2 ++ [te]) hr h1 (by have := h.vl; simpa using this)) (Nat.zero_le _) ?_
 rintro vs ⟨vs, rfl, hv⟩
 refine Rd.bind (rd_funcs m.funcs h.fs n n [] t2 [te] (by rw [isT_hd hE]; rfl) h2 (by have := h.fl; simpa using this)) (Nat.le_refl _) ?_
 rintro fs ⟨fs, rfl, hf⟩
 show Rd _ (if te.kind = 6 then _ else _) _ _
 rw [if_pos hte]
 refine Rd.ok ?_
 show Md.mk (vs.map bareV) (fs.map bareF) = _
 rw [hv, hf]; rfl
theorem parseR_ok {num : Tok -> Int} {fx : List UInt8 -> Bool} {l : List UInt8} {ts t : List Tok} {m : Md} (h : tokensS fx l = .ok ts) (h2 : modP num 60000 ts = some (.ok (m, t))) : parseR num fx l = (m, (0, 0)) := by
 unfold parseR
 simp only [h, h2]
theorem parseR_er {num : Tok -> Int} {fx : List UInt8 -> Bool} {l : List UInt8} {ts : List Tok} {f : Flt} (h : tokensS fx l = .ok ts) (h2 : modP num 60000 ts = some (.error f)) : parseR num fx l = (zMd, f) := by
 unfold parseR
 simp only [h, h2]
theorem parse_back {R : Prop} {m : Md} (h : MOK R m) (hw : wideB (modT m) = false) :
  (∃ x, PARSE (modT m) = (x, (0, 0)) /\ bareM x = bareM m) \/ (30 < nsM m /\ (PARSE (modT m)).2.1 = 91) := by
 obtain ⟨ts, h1, h2⟩ := mod_toks h hw
 have hl : (modT m).length <= 16384 := by unfold wideB at hw; simpa using hw
 have hk := tokensS_keeps (modT m)
 rw [h1] at hk
 obtain ⟨r, hr⟩ := modP_more numT (ts ++ [⟨6, ⟨#[]⟩, (modT m).length⟩]) hk.2.1
 have hrd := mod_rd h 60000 ts ⟨6, ⟨#[]⟩, (modT m).length⟩ rfl rfl h2
 rcases hrd with q | ⟨x, q1, q2⟩ | ⟨q1, a, q2⟩
 ·rw [q] at hr; cases hr
 ·exact .inl ⟨x, parseR_ok h1 q1, q2⟩
 ·exact .inr ⟨q1, by show (parseR numT fxB (modT m)).2.1 = 91; rw [parseR_er h1 q2]⟩
def brB (w : List UInt8) : Bool := w == [40] || w == [91] || w == [123]
def wk (a b : Nat) (t : Tok) : Nat := a + if brB (toL t.text) = true then b else 0
def mu (a b : Nat) : List Tok -> Nat
 | [] => 0
 | t :: r => wk a b t + mu a b r
theorem wk_le (a b : Nat) (t : Tok) : a <= wk a b t := Nat.le_add_right _ _
theorem wk_br {t : Tok} {w : List UInt8} (h : toL t.text = w) (hw : brB w = true) (a b : Nat) : wk a b t = a + b := by unfold wk; rw [h, if_pos hw]
theorem mu_len (ts : List Tok) : mu 1 0 ts = ts.length := by
 induction ts with
 | nil => rfl
 | cons t r ih =>
  show wk 1 0 t + mu 1 0 r = r.length + 1
  rw [ih]
  unfold wk
  split <;> omega
structure Tg (t : Tok) : Prop where
 ok : TokOK t
 nm : t.kind = 1 -> nameB t.text = true
structure Al (ts : List Tok) : Prop where
 tg : ∀ t ∈ ts, Tg t
 le : ts.length <= 16385
theorem Al.tail {t : Tok} {r : List Tok} (h : Al (t :: r)) : Al r := ⟨fun x hx => h.tg x (List.mem_cons_of_mem _ hx), by have := h.le; simp at this; omega⟩
theorem Al.hd {t : Tok} {r : List Tok} (h : Al (t :: r)) : Tg t := h.tg t List.mem_cons_self
def Spc {α : Type} (m : Option (Except Flt (α × List Tok))) (P : α -> List Tok -> Prop) : Prop := ∀ x ts', m = some (.ok (x, ts')) -> P x ts'
theorem Spc.ok {α : Type} {x : α} {ts : List Tok} {P : α -> List Tok -> Prop} (h : P x ts) : Spc (some (.ok (x, ts))) P := fun y t e => by
 injection e with e; injection e with e; injection e with e1 e2; rw [<- e1, <- e2]; exact h
theorem Spc.er {α : Type} {f : Flt} {P : α -> List Tok -> Prop} : Spc (some (.error f)) P := fun y t e => by cases e
theorem Spc.no {α : Type} {P : α -> List Tok -> Prop} : Spc none P := fun y t e => by cases e
theorem Spc.fail {α : Type} {c : Int} {ts : List Tok} {P : α -> List Tok -> Prop} : Spc (PM.fail c ts) P := Spc.er
theorem Spc.bind {α β : Type} {m : PM α} {f : α -> PM β} {ts : List Tok} {P : α -> List Tok -> Prop} {Q : β -> List Tok -> Prop} (h : Spc (m ts) P) (hf : ∀ x t1, P x t1 -> Spc (f x t1) Q) : Spc (m.bind f ts) Q := by
 unfold PM.bind
 cases hm : m ts with
 | none => exact Spc.no
 | some r =>
  cases r with
  | error e => exact Spc.er
  | ok p => exact hf p.1 p.2 (h p.1 p.2 (by rw [hm]))
theorem Spc.mono {α : Type} {m : Option (Except Flt (α × List Tok))} {P Q : α -> List Tok -> Prop} (h : Spc m P) (hq : ∀ x t, P x t -> Q x t) : Spc m Q := fun x t e => hq x t (h x t e)
theorem isT_split {w : List UInt8} {ts : List Tok} (h : isT (tx w) ts = true) : ∃ t r, ts = t :: r /\ toL t.text = w /\ nextT ts = r := by
 have hk := isT_kind h
 cases ts with
 | nil => exact absurd hk (by decide)
 | cons t r =>
  refine ⟨t, r, rfl, ?_, ?_⟩
  ·unfold isT at h
   rw [Bool.and_eq_true, beq_iff_eq] at h
   have h1 := h.1
   rw [tx_list, text_list] at h1
   exact h1
  ·unfold nextT
   have e : (t :: r).headD zTok = t := rfl
   rw [e] at hk ⊢
   rw [if_neg (by omega)]; rfl
theorem kind_split {ts : List Tok} {k : Int} (h : (ts.headD zTok).kind = k) (hk : k ≠ 0 /\ k ≠ 6) : ∃ t r, ts = t :: r /\ t.kind = k /\ nextT ts = r := by
 cases ts with
 | nil => exact absurd h.symm hk.1
 | cons t r =>
  refine ⟨t, r, rfl, h, ?_⟩
  unfold nextT
  rw [h, if_neg hk.2]; rfl
theorem sp_must (w : List UInt8) (ts : List Tok) : Spc (mustP (tx w) ts) (fun _ t1 => ∃ t, ts = t :: t1 /\ toL t.text = w) := by
 unfold mustP
 by_cases h : isT (tx w) ts = true
 ·obtain ⟨t, r, h1, h2, h3⟩ := isT_split h
  rw [if_pos h, h3]
  exact Spc.ok ⟨t, h1, h2⟩
 ·rw [if_neg h]; exact Spc.fail
theorem sp_may (w : List UInt8) (ts : List Tok) : Spc (mayP (tx w) ts) (fun b t1 => (b = true /\ ∃ t, ts = t :: t1 /\ toL t.text = w) \/ (b = false /\ t1 = ts)) := by
 unfold mayP
 by_cases h : isT (tx w) ts = true
 ·obtain ⟨t, r, h1, h2, h3⟩ := isT_split h
  rw [if_pos h, h3]
  exact Spc.ok (.inl ⟨rfl, t, h1, h2⟩)
 ·rw [if_neg h]; exact Spc.ok (.inr ⟨rfl, rfl⟩)
theorem sp_name (ts : List Tok) : Spc (nameP ts) (fun t t1 => ts = t :: t1 /\ t.kind = 1) := by
 unfold nameP nextP
 by_cases h : (ts.headD zTok).kind = 1
 ·rw [if_pos h]
  obtain ⟨t, r, h1, h2, h3⟩ := kind_split h (by decide)
  rw [h3, h1]
  exact Spc.ok ⟨rfl, h2⟩
 ·rw [if_neg h]; exact Spc.fail
theorem sp_scalar (ts : List Tok) : Spc (scalarP ts) (fun ty t1 => typedB ty = true /\ ∃ t, ts = t :: t1) := by
 unfold scalarP
 have key : ∀ (w : List UInt8) (n : Int), typedB n = true -> isT (tx w) ts = true -> Spc (some (.ok (n, nextT ts))) (fun ty t1 => typedB ty = true /\ ∃ t, ts = t :: t1) := by
  intro w n hn h
  obtain ⟨t, r, h1, h2, h3⟩ := isT_split h
  rw [h3]
  exact Spc.ok ⟨hn, t, h1⟩
 split
 ·rename_i h; exact key _ 1 rfl h
 split
 ·rename_i h; exact key _ 2 rfl h
 split
 ·rename_i h; exact key _ 3 rfl h
 split
 ·rename_i h; exact key _ 4 rfl h
 ·exact Spc.fail
theorem sp_within {α : Type} {lv : Nat} {read : Nat -> PM α} {ts : List Tok} {P : α -> List Tok -> Prop} (hl : lv <= 30) (h : lv < 30 -> Spc (read (lv + 1) ts) P) : Spc (withinP lv read ts) P := by
 unfold withinP
 by_cases h30 : lv = 30
 ·rw [if_pos h30]; exact Spc.fail
 ·rw [if_neg h30]; exact h (by omega)
theorem sp_between {α : Type} {lv : Nat} {l r : List UInt8} {read : Nat -> PM α} {ts : List Tok} {P : α -> List Tok -> Prop} (hl : lv <= 30) (h : ∀ tl t0, ts = tl :: t0 -> lv < 30 -> Spc (read (lv + 1) t0) P) :
  Spc (betweenP lv (tx l) read (tx r) ts) (fun x t1 => lv < 30 /\ ∃ tl t0 tr, ts = tl :: t0 /\ toL tl.text = l /\ P x (tr :: t1)) := by
 unfold betweenP
 by_cases hc : isT (tx l) ts = true
 ·obtain ⟨t, r1, h1, h2, h3⟩ := isT_split hc
  rw [if_pos hc]
  refine sp_within hl (fun h30 => ?_)
  rw [h3]
  refine Spc.bind (h t r1 h1 h30) (fun x t1 hx => ?_)
  refine Spc.bind (sp_must r t1) (fun _ t2 ⟨tr, h4, h5⟩ => Spc.ok ⟨h30, t, r1, tr, h1, h2, ?_⟩)
  rw [<- h4]; exact hx
 ·rw [if_neg hc]; exact Spc.fail
def pc (b : Nat) (least : Int) (e : Ex) : Nat := if strongE e < least then b else 0
def zEx0 : Ex := .mk 0 0 0 ⟨#[]⟩ [] 0 0 0
mutual
def csE (a b : Nat) : Ex -> Nat
 | .mk k op _ _ args _ _ _ => a + (if k = 6 \/ k = 7 then b else 0) + (if k = 8 then pc b 6 (args.headD zEx0) else if k = 9 then pc b (leftB (strongB 9 op)) (args.headD zEx0) + pc b (strongB 9 op + 1) (args.tail.headD zEx0) else 0) + csEs a b args
def csEs (a b : Nat) : List Ex -> Nat
 | [] => 0
 | e :: l => csE a b e + csEs a b l
end
theorem csEs_app (a b : Nat) (l m : List Ex) : csEs a b (l ++ m) = csEs a b l + csEs a b m := by
 induction l with
 | nil => exact (Nat.zero_add _).symm
 | cons e l ih => show csE a b e + csEs a b (l ++ m) = csE a b e + csEs a b l + csEs a b m; rw [ih]; omega
structure RE (lv : Nat) (least : Int) (ts : List Tok) (e : Ex) (ts' : List Tok) : Prop where
 ok : EOK True e
 al : Al ts'
 cs : ∀ a b, csE a b e + pc b least e + mu a b ts' <= mu a b ts
 ns : lv + nsIn least e <= 30
theorem pc_mono {b : Nat} {l l' : Int} (h : l <= l') (e : Ex) : pc b l e <= pc b l' e := by unfold pc; split <;> split <;> omega
theorem nsIn_pc (l : Int) (e : Ex) : nsIn l e = pc 1 l e + nsE e := rfl
theorem RE.mono {lv : Nat} {l l' : Int} {ts ts' : List Tok} {e : Ex} (h : RE lv l' ts e ts') (hl : l <= l') : RE lv l ts e ts' :=
 ⟨h.ok, h.al, fun a b => by have := h.cs a b; have := pc_mono (b := b) hl e; omega, by have := h.ns; rw [nsIn_pc] at *; have := pc_mono (b := 1) hl e; omega⟩
theorem RE.at1 {lv : Nat} {ts ts' : List Tok} {e : Ex} (h : RE lv 1 ts e ts') : (∀ a b, csE a b e + mu a b ts' <= mu a b ts) /\ lv + nsE e <= 30 := by
 have h0 := strong_ge h.ok
 refine ⟨fun a b => ?_, ?_⟩
 ·have := h.cs a b; omega
 ·have := h.ns; rw [nsIn_pc] at this; omega
mutual
def csS (a b : Nat) : St -> Nat
 | .mk k _ _ exprs body els _ _ => a + csEs a b exprs + (if k = 3 then b else 0) + (if k = 4 \/ k = 5 then b else 0) + csSs a b body + (if els.length = 1 /\ (els.headD (.mk 0 ⟨#[]⟩ 0 [] [] [] 0 0)).kind = 4 \/ els.length = 0 then 0 else b) + csSs a b els
def csSs (a b : Nat) : List St -> Nat
 | [] => 0
 | s :: l => csS a b s + csSs a b l
end
theorem csSs_app (a b : Nat) (l m : List St) : csSs a b (l ++ m) = csSs a b l + csSs a b m := by
 induction l with
 | nil => exact (Nat.zero_add _).symm
 | cons e l ih => show csS a b e + csSs a b (l ++ m) = csS a b e + csSs a b l + csSs a b m; rw [ih]; omega
structure RS (lv : Nat) (ts : List Tok) (s : St) (ts' : List Tok) : Prop where
 ok : SOK True s
 al : Al ts'
 cs : ∀ a b, csS a b s + mu a b ts' <= mu a b ts
 ns : lv + nsS s <= 30
structure RB (lv : Nat) (ts : List Tok) (l : List St) (ts' : List Tok) : Prop where
 ok : ∀ s ∈ l, SOK True s
 ln : l.length <= 400
 al : Al ts'
 cs : ∀ a b, a + b + csSs a b l + mu a b ts' <= mu a b ts
 ns : lv + (1 + (nsSs l).foldr max 0) <= 30
structure RI (R : PRec) : Prop where
 strong : ∀ ts l lv, Al ts -> lv <= 30 -> 1 <= l -> l <= 6 -> Spc (R.strong l lv ts) (RE lv l ts)
 one : ∀ ts lv, Al ts -> lv <= 30 -> Spc (R.one lv ts) (RE lv 6 ts)
 stmt : ∀ ts lv, Al ts -> lv <= 30 -> Spc (R.stmt lv ts) (RS lv ts)
 choice : ∀ ts lv, Al ts -> lv <= 30 -> Spc (R.choice lv ts) (fun s t1 => RS lv ts s t1 /\ s.kind = 4)
 block : ∀ ts lv, Al ts -> lv <= 30 -> Spc (R.block lv ts) (RB lv ts)
theorem ri_expr {R : PRec} (h : RI R) {ts : List Tok} {lv : Nat} (ha : Al ts) (hl : lv <= 30) : Spc (exprP R lv ts) (RE lv 1 ts) := h.strong ts 1 lv ha hl (by decide) (by decide)
structure RR (lv : Nat) (ts : List Tok) (l : List Ex) (ts' : List Tok) : Prop where
 ok : ∀ e ∈ l, EOK True e
 al : Al ts'
 cs : ∀ a b, csEs a b l + mu a b ts' <= mu a b ts
 ns : lv + (l.map nsE).foldr max 0 <= 30
theorem foldr_snoc (l : List Nat) (n : Nat) : (l ++ [n]).foldr max 0 = max (l.foldr max 0) n := by
 induction l with
 | nil => show max n 0 = max 0 n; omega
 | cons x l ih => show max x ((l ++ [n]).foldr max 0) = max (max x (l.foldr max 0)) n; rw [ih]; omega
theorem ri_row {R : PRec} (h : RI R) {lv : Nat} (hl : lv <= 30) (ts : List Tok) : ∀ (m : Nat) (acc : List Ex) (t1 : List Tok), RR lv ts acc t1 -> Spc (rowP (tx [41]) (fun _ => exprP R lv) m acc t1) (RR lv ts)
 | 0, acc, t1, ha => Spc.no
 | m + 1, acc, t1, ha => by
  unfold rowP
  split
  ·exact Spc.ok ha
  ·refine Spc.bind (ri_expr h ha.al hl) (fun e t2 he => ?_)
   have h2 : ∀ t3, Al t3 -> (∀ a b, mu a b t3 <= mu a b t2) -> RR lv ts (acc ++ [e]) t3 := fun t3 h3 h4 => by
    refine ⟨fun x hx => ?_, h3, fun a b => ?_, ?_⟩
    ·rcases List.mem_append.1 hx with hx | hx
     ·exact ha.ok x hx
     ·rw [List.mem_singleton.1 hx]; exact he.ok
    ·rw [csEs_app]
     have h5 := ha.cs a b
     have h6 := (he.at1).1 a b
     have h7 := h4 a b
     show csEs a b acc + (csE a b e + 0) + mu a b t3 <= _
     omega
    ·rw [List.map_append, List.map_singleton, foldr_snoc]
     have h5 := ha.ns
     have h6 := he.at1.2
     omega
   split
   ·exact Spc.ok (h2 t2 he.al (fun a b => Nat.le_refl _))
   ·refine Spc.bind (sp_must _ t2) (fun _ t3 ⟨t, h3, h4⟩ => ?_)
    split
    ·exact Spc.fail
    ·have hal := he.al
     rw [h3] at hal
     exact ri_row h hl ts m _ t3 (h2 t3 hal.tail (fun a b => by rw [h3]; exact Nat.le_add_left _ _))
theorem one_le (e : Ex) : 1 <= csE 1 0 e := by cases e; show 1 <= 1 + _ + _ + _; omega
theorem row_len (l : List Ex) : l.length <= csEs 1 0 l := by
 induction l with
 | nil => exact Nat.le_refl _
 | cons e l ih => show l.length + 1 <= csE 1 0 e + csEs 1 0 l; have := one_le e; omega
theorem ri_call {R : PRec} (h : RI R) {n lv : Nat} (hl : lv <= 30) {t : Tok} {ts : List Tok} (hn : nameB t.text = true) (ha : Al (t :: ts)) : Spc (callP n R lv t ts) (fun e t1 => RE lv 6 (t :: ts) e t1 /\ e.kind = 7) := by
 unfold callP
 refine Spc.bind (sp_between (P := RR (lv + 1) ts.tail) hl (fun tl t0 e h30 => ?_)) (fun l t1 ⟨h30, tl, t0, tr, e1, e2, h1⟩ => Spc.ok ?_)
 ·have hal := ha.tail
  rw [e] at hal
  refine ri_row h h30 ts.tail n [] t0 ⟨(fun e he => by cases he), hal.tail, fun a b => ?_, by show lv + 1 + 0 <= 30; omega⟩
  rw [e]; show 0 + mu a b t0 <= mu a b t0; omega
 ·rw [e1] at h1 ha
  have hlen : l.length <= 16384 := by
   have h3 := h1.cs 1 0
   have h4 := row_len l
   have h5 := ha.le
   rw [mu_len, mu_len] at h3
   simp only [List.tail_cons] at h3
   simp at h5
   omega
  refine ⟨⟨.call hn hlen h1.ok (fun _ => ⟨rfl, rfl⟩), h1.al.tail, fun a b => ?_, ?_⟩, rfl⟩
  ·have h3 := h1.cs a b
   have h4 := wk_br e2 (by decide) a b
   have h5 := wk_le a b t
   show a + b + 0 + csEs a b l + 0 + mu a b t1 <= wk a b t + mu a b ts
   rw [e1]
   have h6 : mu a b (tr :: t1) = wk a b tr + mu a b t1 := rfl
   have h7 : mu a b (tl :: t0) = wk a b tl + mu a b t0 := rfl
   simp only [List.tail_cons] at h3
   omega
  ·show lv + (0 + (1 + (nsEs l).foldr max 0)) <= 30
   rw [nsEs_map]
   have := h1.ns
   omega
theorem ri_index {R : PRec} (h : RI R) {lv : Nat} (hl : lv <= 30) {ts : List Tok} (ha : Al ts) : Spc (indexP R lv ts) (fun l t1 => ∃ x, l = [x] /\ EOK True x /\ Al t1 /\ (∀ a b, b + csE a b x + mu a b t1 <= mu a b ts) /\ lv + (1 + nsE x) <= 30) := by
 unfold indexP
 refine (sp_between (P := fun l t1 => ∃ x, l = [x] /\ RE (lv + 1) 1 ts.tail x t1) hl (fun tl t0 e h30 => ?_)).mono (fun l t1 ⟨h30, tl, t0, tr, e1, e2, x, h1, h2⟩ => ?_)
 ·rw [e] at ha ⊢
  exact Spc.bind (ri_expr h ha.tail h30) (fun x t1 hx => Spc.ok ⟨x, rfl, hx⟩)
 ·refine ⟨x, h1, h2.ok, h2.al.tail, fun a b => ?_, by have := h2.at1.2; omega⟩
  have h3 := h2.at1.1 a b
  have h4 := wk_br e2 (by decide) a b
  rw [e1] at h3 ⊢
  have h6 : mu a b (tr :: t1) = wk a b tr + mu a b t1 := rfl
  have h7 : mu a b (tl :: t0) = wk a b tl + mu a b t0 := rfl
  simp only [List.tail_cons] at h3
  omega
theorem re_leaf {lv : Nat} {t : Tok} {r : List Tok} {e : Ex} (hl : lv <= 30) (ha : Al (t :: r)) (hk : EOK True e) (hs : strongE e = 6) (hc : ∀ a b, csE a b e = a) (hn : nsE e = 0) : RE lv 6 (t :: r) e r := by
 have hp : ∀ b, pc b 6 e = 0 := fun b => by unfold pc; rw [hs]; rfl
 refine ⟨hk, ha.tail, fun a b => ?_, ?_⟩
 ·rw [hc, hp]
  have := wk_le a b t
  show a + 0 + mu a b r <= wk a b t + mu a b r
  omega
 ·rw [nsIn_pc, hp, hn]; omega
theorem num_lt {t : Tok} (h : Tg t) (hk : t.kind = 3 \/ t.kind = 4) : ∃ n : Nat, numT t = n /\ n < 9223372036854775808 := by
 rcases hk with hk | hk
 ·have h1 := (h.ok.2.1 hk).2.2
  refine ⟨decU t.text.data.toList, ?_, h1⟩
  unfold numT
  rw [hk, if_neg (by decide)]
 ·have h1 := (h.ok.2.2 hk).2
  unfold numT
  rw [if_pos hk]
  revert h1
  unfold fixP
  dsimp only
  split
  ·intro h1; cases h1
  ·split
   ·intro h1; cases h1
   ·split
    ·intro h1; cases h1
    ·rename_i h3 h4 h5
     intro _
     refine ⟨_, rfl, ?_⟩
     have h6 : decU (t.text.data.toList.takeWhile (· != 46)) <= 2147483647 := by omega
     have h7 : ∀ c ∈ t.text.data.toList.takeWhile (· != 46) ++ (t.text.data.toList.dropWhile (· != 46)).tail, 48 <= c.toNat /\ c.toNat <= 57 := by
      intro c hc
      have h8 : (t.text.data.toList.takeWhile (· != 46) ++ (t.text.data.toList.dropWhile (· != 46)).tail).all (fun c => decide (48 <= c.toNat) && decide (c.toNat <= 57)) = true := by simpa using h4
      have h9 := List.all_eq_true.1 h8 c hc
      simpa using h9
     obtain ⟨k1, k2⟩ := fracN_val 32 (decU (t.text.data.toList.takeWhile (· != 46))) (((t.text.data.toList.dropWhile (· != 46)).tail).map (fun c => c.toNat - 48)) (fun d hd => by
      obtain ⟨c, hc, rfl⟩ := List.mem_map.1 hd
      have := h7 c (List.mem_append_right _ hc)
      omega)
     have k3 := valN_lt (((t.text.data.toList.dropWhile (· != 46)).tail).map (fun c => c.toNat - 48)) (fun d hd => by
      obtain ⟨c, hc, rfl⟩ := List.mem_map.1 hd
      have := h7 c (List.mem_append_right _ hc)
      omega)
     revert k1 k3
     generalize fracN 32 (decU (t.text.data.toList.takeWhile (· != 46))) (((t.text.data.toList.dropWhile (· != 46)).tail).map (fun c => c.toNat - 48)) = f
     generalize valN (((t.text.data.toList.dropWhile (· != 46)).tail).map (fun c => c.toNat - 48)) = v
     generalize (((t.text.data.toList.dropWhile (· != 46)).tail).map (fun c => c.toNat - 48)).length = len
     generalize decU (t.text.data.toList.takeWhile (· != 46)) = w at h6
     have hp : 0 < 10 ^ len := Nat.pow_pos (by decide)
     generalize 10 ^ len = P at hp
     intro k1 k3
     rw [e32] at k1
     have k4 : w * P + v < (w + 1) * P := by rw [Nat.add_mul, Nat.one_mul]; omega
     have k5 : f * P < 4294967296 * ((w + 1) * P) := Nat.lt_of_le_of_lt k1 (Nat.mul_lt_mul_of_pos_left k4 (by decide))
     rw [<- Nat.mul_assoc] at k5
     have k6 := Nat.lt_of_mul_lt_mul_right k5
     exact Nat.lt_of_lt_of_le k6 (Nat.le_trans (Nat.mul_le_mul_left _ (show w + 1 <= 2147483648 by omega)) (by decide))
theorem ri_atom {R : PRec} (h : RI R) {n lv : Nat} (hl : lv <= 30) {ts : List Tok} (ha : Al ts) : Spc (atomP numT n R lv ts) (RE lv 6 ts) := by
 unfold atomP
 dsimp only
 split
 ·rename_i hk
  obtain ⟨t, r, rfl, h2, h3⟩ := kind_split hk (by decide)
  obtain ⟨m, e1, e2⟩ := num_lt ha.hd (.inl h2)
  rw [h3]
  show Spc (some (.ok (Ex.mk 1 0 (numT t) _ _ _ _ _, r))) _
  rw [e1]
  exact Spc.ok (re_leaf hl ha (.int e2 (fun _ => ⟨rfl, rfl⟩)) rfl (fun a b => rfl) rfl)
 split
 ·rename_i hk
  obtain ⟨t, r, rfl, h2, h3⟩ := kind_split hk (by decide)
  obtain ⟨m, e1, e2⟩ := num_lt ha.hd (.inr h2)
  rw [h3]
  show Spc (some (.ok (Ex.mk 2 0 (numT t) _ _ _ _ _, r))) _
  rw [e1]
  exact Spc.ok (re_leaf hl ha (.fix e2 (fun _ => ⟨rfl, rfl⟩)) rfl (fun a b => rfl) rfl)
 split
 ·rename_i hk
  obtain ⟨t, r, rfl, h2, h3⟩ := isT_split hk
  rw [h3]
  exact Spc.ok (re_leaf hl ha (.bool (.inr rfl) (fun _ => ⟨rfl, rfl⟩)) rfl (fun a b => rfl) rfl)
 split
 ·rename_i hk
  obtain ⟨t, r, rfl, h2, h3⟩ := isT_split hk
  rw [h3]
  exact Spc.ok (re_leaf hl ha (.bool (.inl rfl) (fun _ => ⟨rfl, rfl⟩)) rfl (fun a b => rfl) rfl)
 split
 ·rename_i hk
  obtain ⟨t, r, rfl, h2, h3⟩ := isT_split hk
  rw [h3]
  exact Spc.ok (re_leaf hl ha (.null (fun _ => ⟨rfl, rfl⟩)) rfl (fun a b => rfl) rfl)
 split
 ·refine (sp_between (P := RE (lv + 1) 1 ts.tail) hl (fun tl t0 e h30 => ?_)).mono (fun x t1 ⟨h30, tl, t0, tr, e1, e2, h1⟩ => ?_)
  ·rw [e] at ha ⊢
   exact ri_expr h ha.tail h30
  ·refine ⟨h1.ok, h1.al.tail, fun a b => ?_, ?_⟩
   ·have h3 := h1.at1.1 a b
    have h4 := wk_br e2 (by decide) a b
    rw [e1] at h3 ⊢
    have h6 : mu a b (tr :: t1) = wk a b tr + mu a b t1 := rfl
    have h7 : mu a b (tl :: t0) = wk a b tl + mu a b t0 := rfl
    have h8 : pc b 6 x <= b := by unfold pc; split <;> omega
    simp only [List.tail_cons] at h3
    omega
   ·have h3 := h1.at1.2
    have h8 : pc 1 6 x <= 1 := by unfold pc; split <;> omega
    rw [nsIn_pc]; omega
 refine Spc.bind (sp_name ts) (fun t t1 ⟨e1, hk⟩ => ?_)
 subst e1
 have hn := ha.hd.nm hk
 split
 ·exact (ri_call h hl hn ha).mono (fun x t2 hx => hx.1)
 split
 ·refine Spc.bind (ri_index h hl ha.tail) (fun l t2 ⟨x, e2, h1, h2, h3, h4⟩ => Spc.ok ?_)
  subst e2
  refine ⟨.index hn h1 (fun _ => ⟨rfl, rfl⟩), h2, fun a b => ?_, ?_⟩
  ·have h5 := h3 a b
   have h6 := wk_le a b t
   show a + b + 0 + (csE a b x + 0) + 0 + mu a b t2 <= wk a b t + mu a b t1
   omega
  ·show lv + (0 + (1 + max (nsE x) 0)) <= 30
   omega
 ·exact Spc.ok (re_leaf hl ha (.name hn (fun _ => ⟨rfl, rfl⟩)) rfl (fun a b => rfl) rfl)
theorem ri_one {R : PRec} (h : RI R) {n lv : Nat} (hl : lv <= 30) {ts : List Tok} (ha : Al ts) : Spc (oneP numT n R lv ts) (RE lv 6 ts) := by
 have key : ∀ (o m : Int), o = 14 \/ o = 15 -> ∀ w, isT (tx w) ts = true -> Spc (withinP lv (fun lv ts => (R.one lv).bind (fun e => .ret (.mk 8 o 0 ⟨#[]⟩ [e] m 0 0)) (nextT ts)) ts) (RE lv 6 ts) := by
  intro o m ho w hw
  obtain ⟨t, r, rfl, h2, h3⟩ := isT_split hw
  refine sp_within hl (fun h30 => ?_)
  try dsimp only
  rw [h3]
  refine Spc.bind (h.one r (lv + 1) ha.tail h30) (fun e t1 he => Spc.ok ?_)
  refine ⟨.one ho he.ok (fun _ => ⟨rfl, rfl⟩), he.al, fun a b => ?_, ?_⟩
  ·have h5 := he.cs a b
   have h6 := wk_le a b t
   show a + 0 + pc b 6 e + (csE a b e + 0) + 0 + mu a b t1 <= wk a b t + mu a b r
   omega
  ·have := he.ns
   show lv + (0 + (1 + nsIn 6 e)) <= 30
   omega
 unfold oneP
 split
 ·rename_i hc; exact key 15 _ (.inr rfl) _ hc
 split
 ·rename_i hc; exact key 14 _ (.inl rfl) _ hc
 ·exact ri_atom h hl ha
theorem both_ok (s : ByteArray) (h : 1 <= (bothS s).2) : 1 <= (bothS s).1 /\ (bothS s).1 <= 13 /\ (bothS s).2 = strongB 9 (bothS s).1 := by
 have hall : ∀ p ∈ bothL, 1 <= p.2.1 /\ p.2.1 <= 13 /\ p.2.2 = strongB 9 p.2.1 := by decide
 unfold bothS at h ⊢
 split
 ·rename_i p hp
  exact hall p (List.mem_of_find?_eq_some hp)
 ·rename_i hp
  rw [hp] at h
  exact absurd h (by decide)
theorem ri_loop {R : PRec} (h : RI R) {lv : Nat} (hl : lv <= 30) {least : Int} (h1 : 1 <= least) (ts : List Tok) : ∀ (k : Nat) (most : Int) (e : Ex) (t1 : List Tok), most <= 5 -> RE lv least ts e t1 -> (∀ s, least <= s -> s <= most -> RE lv (leftB s) ts e t1) -> Spc (strongL R least lv k most e t1) (RE lv least ts)
 | 0, _, _, _, _, _, _ => Spc.no
 | k + 1, most, e, t1, hm, he, hs => by
  unfold strongL
  dsimp only
  split
  ·exact Spc.ok he
  ·rename_i hc
   obtain ⟨s0, hs0⟩ : ∃ s, s = (bothS (t1.headD zTok).text).2 := ⟨_, rfl⟩
   obtain ⟨o, ho⟩ : ∃ s, s = (bothS (t1.headD zTok).text).1 := ⟨_, rfl⟩
   have hb := both_ok (t1.headD zTok).text
   rw [<- hs0, <- ho] at hb
   rw [<- hs0] at hc ⊢
   rw [<- ho]
   have hk5 : (t1.headD zTok).kind = 5 := Classical.byContradiction fun q => hc (.inl q)
   have hlo : least <= s0 := by omega
   have hhi : s0 <= most := by omega
   obtain ⟨b1, b2, b3⟩ := hb (by omega)
   obtain ⟨t, r, rfl, h2, h3⟩ := kind_split hk5 (by decide)
   rw [h3]
   have hl0 := hs s0 hlo hhi
   refine Spc.bind (h.strong r (s0 + 1) lv he.al.tail hl (by omega) (by omega)) (fun y t2 hy => ?_)
   have hse : strongE (.mk 9 o 0 ⟨#[]⟩ [e, y] ((t :: r).headD zTok).at_ 0 0) = s0 := b3.symm
   have main : ∀ l', l' <= s0 -> RE lv l' ts (.mk 9 o 0 ⟨#[]⟩ [e, y] ((t :: r).headD zTok).at_ 0 0) t2 := by
    intro l' hl'
    have hp : ∀ b, pc b l' (.mk 9 o 0 ⟨#[]⟩ [e, y] ((t :: r).headD zTok).at_ 0 0) = 0 := fun b => by unfold pc; rw [hse, if_neg (by omega)]
    refine ⟨.both b1 b2 he.ok hy.ok (fun _ => ⟨rfl, rfl⟩), hy.al, fun a b => ?_, ?_⟩
    ·rw [hp]
     have q1 := hl0.cs a b
     have q2 := hy.cs a b
     have q3 := wk_le a b t
     have q4 : mu a b (t :: r) = wk a b t + mu a b r := rfl
     show a + 0 + (pc b (leftB (strongB 9 o)) e + pc b (strongB 9 o + 1) y) + (csE a b e + (csE a b y + 0)) + 0 + mu a b t2 <= mu a b ts
     rw [<- b3]
     omega
    ·rw [nsIn_pc, hp]
     have q1 := hl0.ns
     have q2 := hy.ns
     show lv + (0 + max (nsIn (leftB (strongB 9 o)) e) (nsIn (strongB 9 o + 1) y)) <= 30
     rw [<- b3]
     omega
   refine ri_loop h hl h1 ts k _ _ t2 ?_ (main least hlo) (fun s q1 q2 => main (leftB s) ?_)
   ·split <;> omega
   ·unfold leftB
    revert q2
    split <;> split <;> omega
theorem leftB_le {s : Int} (h : s <= 5) : leftB s <= 6 := by unfold leftB; split <;> omega
theorem ri_strong {R : PRec} (h : RI R) {n lv : Nat} {least : Int} (hl : lv <= 30) (h1 : 1 <= least) (h6 : least <= 6) {ts : List Tok} (ha : Al ts) : Spc (strongP n R least lv ts) (RE lv least ts) := by
 unfold strongP
 refine Spc.bind (h.one ts lv ha hl) (fun e t1 he => ?_)
 exact ri_loop h hl h1 ts n 5 e t1 (by decide) (he.mono h6) (fun s q1 q2 => he.mono (leftB_le q2))
theorem mu_cons (a b : Nat) (t : Tok) (r : List Tok) : mu a b (t :: r) = wk a b t + mu a b r := rfl
theorem mu_tail (a b : Nat) (t : Tok) (r : List Tok) : a + mu a b r <= mu a b (t :: r) := by
 have := wk_le a b t
 rw [mu_cons]; omega
structure RSs (lv : Nat) (ts : List Tok) (l : List St) (ts' : List Tok) : Prop where
 ok : ∀ s ∈ l, SOK True s
 ln : l.length <= 400
 al : Al ts'
 cs : ∀ a b, csSs a b l + mu a b ts' <= mu a b ts
 ns : lv + (l.map nsS).foldr max 0 <= 30
theorem ri_stmts {R : PRec} (h : RI R) {lv : Nat} (hl : lv <= 30) (ts : List Tok) : ∀ (m : Nat) (acc : List St) (t1 : List Tok), RSs lv ts acc t1 -> Spc (stmtsL R lv m acc t1) (RSs lv ts)
 | 0, acc, t1, ha => Spc.no
 | m + 1, acc, t1, ha => by
  unfold stmtsL
  split
  ·split
   ·exact Spc.fail
   ·rename_i h400
    refine Spc.bind (h.stmt t1 lv ha.al hl) (fun s t2 hs => ri_stmts h hl ts m _ t2 ⟨fun x hx => ?_, ?_, hs.al, fun a b => ?_, ?_⟩)
    ·rcases List.mem_append.1 hx with hx | hx
     ·exact ha.ok x hx
     ·rw [List.mem_singleton.1 hx]; exact hs.ok
    ·have := ha.ln
     rw [List.length_append, List.length_singleton]; omega
    ·rw [csSs_app]
     have h5 := ha.cs a b
     have h6 := hs.cs a b
     show csSs a b acc + (csS a b s + 0) + mu a b t2 <= _
     omega
    ·rw [List.map_append, List.map_singleton, foldr_snoc]
     have h5 := ha.ns
     have h6 := hs.ns
     omega
  ·exact Spc.ok ha
theorem ri_block {R : PRec} (h : RI R) {n lv : Nat} (hl : lv <= 30) {ts : List Tok} (ha : Al ts) : Spc (blockP n R lv ts) (RB lv ts) := by
 unfold blockP
 refine (sp_between (P := RSs (lv + 1) ts.tail) hl (fun tl t0 e h30 => ?_)).mono (fun x t1 ⟨h30, tl, t0, tr, e1, e2, h1⟩ => ?_)
 ·rw [e] at ha ⊢
  exact ri_stmts h h30 t0 n [] t0 ⟨(fun e he => by cases he), (by show 0 <= 400; omega), ha.tail, (fun a b => by show 0 + mu a b t0 <= mu a b t0; omega), (by show lv + 1 + 0 <= 30; omega)⟩
 ·refine ⟨h1.ok, h1.ln, h1.al.tail, fun a b => ?_, ?_⟩
  ·have h3 := h1.cs a b
   have h4 := wk_br e2 (by decide) a b
   rw [e1] at h3 ⊢
   simp only [List.tail_cons] at h3
   rw [mu_cons] at h3 ⊢
   omega
  ·rw [nsSs_map]
   have := h1.ns
   omega
theorem ri_semi {s : St} {ts : List Tok} {P : St -> List Tok -> Prop} (h : ∀ t t1, ts = t :: t1 -> P s t1) : Spc (semiP s ts) P := by
 unfold semiP
 exact Spc.bind (sp_must _ ts) (fun _ t1 ⟨t, e, _⟩ => Spc.ok (h t t1 e))
theorem ri_choice {R : PRec} (h : RI R) {lv : Nat} (hl : lv <= 30) {ts : List Tok} (ha : Al ts) : Spc (choiceP R lv ts) (fun s t1 => RS lv ts s t1 /\ s.kind = 4) := by
 unfold choiceP
 dsimp only
 refine Spc.bind (sp_must _ ts) (fun _ t1 ⟨t, e1, _⟩ => ?_)
 subst e1
 refine Spc.bind (ri_expr h ha.tail hl) (fun e t2 he => ?_)
 refine Spc.bind (h.block t2 lv he.al hl) (fun l t3 hb => ?_)
 have hc : ∀ a b, a + csE a b e + b + csSs a b l + (a + mu a b t3) <= mu a b (t :: t1) := fun a b => by
  have q1 := he.at1.1 a b
  have q2 := hb.cs a b
  have q3 := mu_tail a b t t1
  omega
 refine Spc.bind (sp_may _ t3) (fun b t4 hm => ?_)
 rcases hm with ⟨rfl, t5, e5, _⟩ | ⟨rfl, e5⟩
 ·subst e5
  rw [if_pos rfl]
  split
  ·refine Spc.bind (P := fun s t6 => RS (lv + 1) t4 s t6 /\ s.kind = 4 /\ lv < 30) (sp_within hl (fun h30 => (h.choice t4 (lv + 1) hb.al.tail h30).mono (fun s t6 hs => ⟨hs.1, hs.2, h30⟩))) (fun s t6 ⟨hs, hk, h30⟩ => Spc.ok ⟨⟨.iff he.ok hb.ln (by show 1 <= 400; omega) hb.ok (fun x hx => by rw [List.mem_singleton.1 hx]; exact hs.ok) (fun _ => rfl), hs.al, fun a b => ?_, ?_⟩, rfl⟩)
   ·have q1 := hc a b
    have q2 := mu_tail a b t5 t4
    have q3 := hs.cs a b
    have q4 : csS a b (.mk 4 ⟨#[]⟩ 0 [e] l [s] ((t :: t1).headD zTok).at_ 0) = a + (csE a b e + 0) + 0 + b + csSs a b l + (if [s].length = 1 /\ ([s].headD (.mk 0 ⟨#[]⟩ 0 [] [] [] 0 0)).kind = 4 \/ [s].length = 0 then 0 else b) + (csS a b s + 0) := rfl
    rw [q4, if_pos (.inl ⟨rfl, hk⟩)]
    omega
   ·have q1 := he.at1.2
    have q2 := hb.ns
    have q3 := hs.ns
    show lv + max (nsE e) (max (1 + (nsSs l).foldr max 0) (1 + max (nsS s) 0)) <= 30
    omega
  ·refine Spc.bind (h.block t4 lv hb.al.tail hl) (fun l2 t6 h2 => Spc.ok ⟨⟨.iff he.ok hb.ln h2.ln hb.ok h2.ok (fun _ => rfl), h2.al, fun a b => ?_, ?_⟩, rfl⟩)
   ·have q1 := hc a b
    have q2 := mu_tail a b t5 t4
    have q3 := h2.cs a b
    have q4 : csS a b (.mk 4 ⟨#[]⟩ 0 [e] l l2 ((t :: t1).headD zTok).at_ 0) = a + (csE a b e + 0) + 0 + b + csSs a b l + (if l2.length = 1 /\ (l2.headD (.mk 0 ⟨#[]⟩ 0 [] [] [] 0 0)).kind = 4 \/ l2.length = 0 then 0 else b) + csSs a b l2 := rfl
    rw [q4]
    split <;> omega
   ·have q1 := he.at1.2
    have q2 := hb.ns
    have q3 := h2.ns
    show lv + max (nsE e) (max (1 + (nsSs l).foldr max 0) (if l2.length = 0 then 0 else 1 + (nsSs l2).foldr max 0)) <= 30
    split <;> omega
 ·subst e5
  rw [if_neg (by decide)]
  refine Spc.ok ⟨⟨.iff he.ok hb.ln (by show 0 <= 400; omega) hb.ok (fun x hx => by cases hx) (fun _ => rfl), hb.al, fun a b => ?_, ?_⟩, rfl⟩
  ·have q1 := hc a b
   show a + (csE a b e + 0) + 0 + b + csSs a b l + 0 + 0 + mu a b t4 <= _
   omega
  ·have q1 := he.at1.2
   have q2 := hb.ns
   show lv + max (nsE e) (max (1 + (nsSs l).foldr max 0) 0) <= 30
   omega
theorem ri_stmt {R : PRec} (h : RI R) {n lv : Nat} (hl : lv <= 30) {ts : List Tok} (ha : Al ts) : Spc (stmtP n R lv ts) (RS lv ts) := by
 unfold stmtP
 dsimp only
 split
 ·exact (h.choice ts lv ha hl).mono (fun s t1 hs => hs.1)
 split
 ·rename_i hc
  obtain ⟨t, r, rfl, _, h3⟩ := isT_split hc
  rw [h3]
  refine Spc.bind (ri_expr h ha.tail hl) (fun e t2 he => Spc.bind (h.block t2 lv he.al hl) (fun l t3 hb => Spc.ok ⟨.whl he.ok hb.ln hb.ok (fun _ => rfl), hb.al, fun a b => ?_, ?_⟩))
  ·have q1 := he.at1.1 a b
   have q2 := hb.cs a b
   have q3 := mu_tail a b t r
   show a + (csE a b e + 0) + 0 + b + csSs a b l + 0 + 0 + mu a b t3 <= _
   omega
  ·have q1 := he.at1.2
   have q2 := hb.ns
   show lv + max (nsE e) (1 + (nsSs l).foldr max 0) <= 30
   omega
 split
 ·rename_i hc
  obtain ⟨t, r, rfl, _, h3⟩ := isT_split hc
  rw [h3]
  refine Spc.bind (sp_name r) (fun u t1 ⟨e1, hk⟩ => ?_)
  subst e1
  have hn := ha.tail.hd.nm hk
  refine Spc.bind (sp_must _ t1) (fun _ t2 ⟨t3, e2, _⟩ => ?_)
  subst e2
  refine Spc.bind (sp_scalar t2) (fun ty t4 ⟨hty, t5, e3⟩ => ?_)
  subst e3
  refine Spc.bind (sp_must _ t4) (fun _ t6 ⟨t7, e4, _⟩ => ?_)
  subst e4
  refine Spc.bind (ri_expr h ha.tail.tail.tail.tail.tail hl) (fun e t8 he => ri_semi (fun t9 t10 e5 => ?_))
  subst e5
  refine ⟨.lt hn hty he.ok (fun _ => rfl), he.al.tail, fun a b => ?_, ?_⟩
  ·have q1 := he.at1.1 a b
   have q2 := mu_tail a b t9 t10
   have q3 := mu_tail a b t (u :: t3 :: t5 :: t7 :: t6)
   have q4 := mu_tail a b u (t3 :: t5 :: t7 :: t6)
   have q5 := mu_tail a b t3 (t5 :: t7 :: t6)
   have q6 := mu_tail a b t5 (t7 :: t6)
   have q7 := mu_tail a b t7 t6
   show a + (csE a b e + 0) + 0 + 0 + 0 + 0 + 0 + mu a b t10 <= _
   omega
  ·have q1 := he.at1.2
   exact q1
 split
 ·rename_i hc
  obtain ⟨t, r, rfl, _, h3⟩ := isT_split hc
  rw [h3]
  split
  ·refine ri_semi (fun t1 t2 e1 => ?_)
   subst e1
   refine ⟨.ret0 (fun _ => rfl), ha.tail.tail, fun a b => ?_, by show lv + 0 <= 30; omega⟩
   have q1 := mu_tail a b t (t1 :: t2)
   have q2 := mu_tail a b t1 t2
   show a + 0 + 0 + 0 + 0 + 0 + 0 + mu a b t2 <= _
   omega
  ·refine Spc.bind (ri_expr h ha.tail hl) (fun e t1 he => ri_semi (fun t2 t3 e1 => ?_))
   subst e1
   refine ⟨.ret he.ok (fun _ => rfl), he.al.tail, fun a b => ?_, he.at1.2⟩
   have q1 := he.at1.1 a b
   have q2 := mu_tail a b t r
   have q3 := mu_tail a b t2 t3
   show a + (csE a b e + 0) + 0 + 0 + 0 + 0 + 0 + mu a b t3 <= _
   omega
 refine Spc.bind (sp_name ts) (fun t t1 ⟨e1, hk⟩ => ?_)
 subst e1
 have hn := ha.hd.nm hk
 split
 ·refine Spc.bind (ri_call h hl hn ha) (fun e t2 ⟨he, hk7⟩ => ri_semi (fun t3 t4 e1 => ?_))
  subst e1
  refine ⟨.call hk7 he.ok (fun _ => rfl), he.al.tail, fun a b => ?_, (he.mono (show (1 : Int) <= 6 by decide)).at1.2⟩
  have q1 := (he.mono (show (1 : Int) <= 6 by decide)).at1.1 a b
  have q3 := mu_tail a b t3 t4
  show a + (csE a b e + 0) + 0 + 0 + 0 + 0 + 0 + mu a b t4 <= _
  omega
 split
 ·refine Spc.bind (ri_index h hl ha.tail) (fun l t2 ⟨x, e2, h1, h2, h3, h4⟩ => ?_)
  subst e2
  refine Spc.bind (sp_must _ t2) (fun _ t3 ⟨t4, e3, _⟩ => ?_)
  subst e3
  refine Spc.bind (ri_expr h h2.tail hl) (fun e t5 he => ri_semi (fun t6 t7 e4 => ?_))
  subst e4
  refine ⟨.put hn h1 he.ok (fun _ => rfl), he.al.tail, fun a b => ?_, ?_⟩
  ·have q1 := he.at1.1 a b
   have q2 := h3 a b
   have q3 := mu_tail a b t t1
   have q4 := mu_tail a b t4 t3
   have q5 := mu_tail a b t6 t7
   show a + (csE a b x + (csE a b e + 0)) + b + 0 + 0 + 0 + 0 + mu a b t7 <= _
   omega
  ·have q1 := he.at1.2
   show lv + max (1 + nsE x) (nsE e) <= 30
   omega
 ·refine Spc.bind (sp_must _ t1) (fun _ t3 ⟨t4, e3, _⟩ => ?_)
  subst e3
  refine Spc.bind (ri_expr h ha.tail.tail hl) (fun e t5 he => ri_semi (fun t6 t7 e4 => ?_))
  subst e4
  refine ⟨.set hn he.ok (fun _ => rfl), he.al.tail, fun a b => ?_, he.at1.2⟩
  have q1 := he.at1.1 a b
  have q3 := mu_tail a b t (t4 :: t3)
  have q4 := mu_tail a b t4 t3
  have q5 := mu_tail a b t6 t7
  show a + (csE a b e + 0) + 0 + 0 + 0 + 0 + 0 + mu a b t7 <= _
  omega
theorem ri_prec : ∀ n, RI (prec numT n)
 | 0 => ⟨fun _ _ _ _ _ _ _ => Spc.no, fun _ _ _ _ => Spc.no, fun _ _ _ _ => Spc.no, fun _ _ _ _ => Spc.no, fun _ _ _ _ => Spc.no⟩
 | n + 1 => ⟨fun ts l lv ha hl h1 h6 => ri_strong (ri_prec n) hl h1 h6 ha, fun ts lv ha hl => ri_one (ri_prec n) hl ha, fun ts lv ha hl => ri_stmt (ri_prec n) hl ha, fun ts lv ha hl => ri_choice (ri_prec n) hl ha, fun ts lv ha hl => ri_block (ri_prec n) hl ha⟩
def csV (b : Nat) (v : Vr) : Nat := if 0 < v.size then b else 0
def csF (a b : Nat) (f : Fc) : Nat := a * f.params.length + b + b + csSs a b f.body
structure RV (ts : List Tok) (v : Vr) (ts' : List Tok) : Prop where
 ok : VOK v
 al : Al ts'
 cs : ∀ a b, a + csV b v + mu a b ts' <= mu a b ts
theorem signed_lt {t : Tok} (h : Tg t) (hk : t.kind = 3 \/ t.kind = 4) (s : Int) (hs : s = 1 \/ s = -1) : -9223372036854775808 < wrap64 (s * numT t) /\ wrap64 (s * numT t) < 9223372036854775808 := by
 obtain ⟨n, e1, e2⟩ := num_lt h hk
 rw [e1]
 rcases hs with rfl | rfl
 ·rw [wrap_id _ (by omega)]; omega
 ·rw [wrap_id _ (by omega)]; omega
theorem ri_value {ty : Int} {ts : List Tok} (ha : Al ts) (hty : typedB ty = true) : Spc (valueP numT ty ts) (fun v t1 => (-9223372036854775808 < v /\ v < 9223372036854775808 /\ (ty = 3 -> v = 0 \/ v = 1) /\ (ty = 4 -> v = 0)) /\ Al t1 /\ ∀ a b, mu a b t1 <= mu a b ts) := by
 unfold valueP
 split
 ·rename_i h3
  refine Spc.bind (sp_may _ ts) (fun b t1 hm => ?_)
  rcases hm with ⟨rfl, t5, e5, _⟩ | ⟨rfl, e5⟩
  ·subst e5
   exact Spc.ok ⟨⟨by decide, by decide, fun _ => .inr rfl, fun q => by omega⟩, ha.tail, fun a b => Nat.le_add_left _ _⟩
  ·subst e5
   rw [if_neg (by decide)]
   refine Spc.bind (sp_must _ t1) (fun _ t2 ⟨t3, e3, _⟩ => ?_)
   subst e3
   exact Spc.ok ⟨⟨by decide, by decide, fun _ => .inl rfl, fun q => by omega⟩, ha.tail, fun a b => Nat.le_add_left _ _⟩
 split
 ·rename_i h3 h4
  refine Spc.bind (sp_must _ ts) (fun _ t2 ⟨t3, e3, _⟩ => ?_)
  subst e3
  exact Spc.ok ⟨⟨by decide, by decide, fun q => absurd q h3, fun _ => rfl⟩, ha.tail, fun a b => Nat.le_add_left _ _⟩
 ·rename_i h3 h4
  have key : ∀ (s : Int), s = 1 \/ s = -1 -> ∀ t1, Al t1 -> (∀ a b, mu a b t1 <= mu a b ts) -> Spc (signedP numT ty s t1) (fun v t1 => (-9223372036854775808 < v /\ v < 9223372036854775808 /\ (ty = 3 -> v = 0 \/ v = 1) /\ (ty = 4 -> v = 0)) /\ Al t1 /\ ∀ a b, mu a b t1 <= mu a b ts) := by
   intro s hs t1 h1 h2
   unfold signedP
   split
   ·exact Spc.fail
   ·rename_i hc
    have hk : (t1.headD zTok).kind = 3 \/ (t1.headD zTok).kind = 4 := by
     unfold typedB at hty
     rw [decide_eq_true_eq] at hty
     omega
    have hk2 : ∃ t r, t1 = t :: r /\ (t.kind = 3 \/ t.kind = 4) /\ nextT t1 = r := by
     rcases hk with hk | hk
     ·obtain ⟨t, r, e, q1, q2⟩ := kind_split hk (by decide); exact ⟨t, r, e, .inl q1, q2⟩
     ·obtain ⟨t, r, e, q1, q2⟩ := kind_split hk (by decide); exact ⟨t, r, e, .inr q1, q2⟩
    obtain ⟨t, r, rfl, q1, q2⟩ := hk2
    rw [q2]
    obtain ⟨p1, p2⟩ := signed_lt h1.hd q1 s hs
    exact Spc.ok ⟨⟨p1, p2, fun q => absurd q h3, fun q => absurd q h4⟩, h1.tail, fun a b => Nat.le_trans (Nat.le_add_left _ _) (h2 a b)⟩
  refine Spc.bind (sp_may _ ts) (fun b t1 hm => ?_)
  rcases hm with ⟨rfl, t5, e5, _⟩ | ⟨rfl, e5⟩
  ·subst e5
   exact key _ (.inr rfl) t1 ha.tail (fun a b => Nat.le_add_left _ _)
  ·subst e5
   exact key _ (.inl rfl) t1 ha (fun a b => Nat.le_refl _)
theorem vok_mk {s : ByteArray} {ty n v at_ : Int} (h1 : nameB s = true) (h2 : typedB ty = true) (h3 : 0 <= n /\ n <= 256) (h4 : 0 < n -> v = 0) (h5 : -9223372036854775808 < v /\ v < 9223372036854775808 /\ (ty = 3 -> v = 0 \/ v = 1) /\ (ty = 4 -> v = 0)) : VOK ⟨s, ty, n, v, at_⟩ := by
 obtain ⟨q1, q2, q3, q4⟩ := h5
 refine ⟨?_, q1, q2, q3⟩
 unfold varOK
 dsimp only
 rw [h1, h2, decide_eq_true h3.1, decide_eq_true h3.2]
 split
 ·rename_i hc
  have : v = 0 := hc.elim (fun q => h4 q) q4
  rw [this]; rfl
 split
 ·rename_i hc
  rcases q3 hc with rfl | rfl <;> rfl
 ·have : v ≠ -9223372036854775808 := by omega
  simpa using this
theorem ri_var {ts : List Tok} (ha : Al ts) : Spc (variableP numT ts) (RV ts) := by
 unfold variableP
 refine Spc.bind (sp_must _ ts) (fun _ t1 ⟨t, e1, _⟩ => ?_)
 subst e1
 refine Spc.bind (sp_name t1) (fun u t2 ⟨e1, hk⟩ => ?_)
 subst e1
 have hn := ha.tail.hd.nm hk
 refine Spc.bind (sp_must _ t2) (fun _ t3 ⟨t4, e2, _⟩ => ?_)
 subst e2
 have ha3 := ha.tail.tail.tail
 refine Spc.bind (sp_may _ t3) (fun b t5 hm => Spc.bind (P := fun v t5 => VOK v /\ Al t5 /\ ∀ a b, csV b v + mu a b t5 <= mu a b t3) ?_ (fun v t5 ⟨q1, q2, q3⟩ => Spc.bind (sp_must [59] t5) (fun _ t6 ⟨t7, e7, _⟩ => Spc.ok ?_)))
 ·rcases hm with ⟨rfl, t6, e5, e6⟩ | ⟨rfl, e5⟩
  ·subst e5
   rw [if_pos rfl]
   refine Spc.bind (P := fun n t7 => (0 < n /\ n <= 256) /\ Al t7 /\ ∀ a b, mu a b t7 <= mu a b t5) ?_ (fun n t7 ⟨q1, q2, q3⟩ => ?_)
   ·unfold sizeP
    split
    ·exact Spc.fail
    ·split
     ·exact Spc.fail
     ·rename_i h3 hc
      obtain ⟨t, r, rfl, p1, p2⟩ := kind_split (Classical.byContradiction h3 : (t5.headD zTok).kind = 3) (by decide)
      rw [p2]
      exact Spc.ok ⟨by omega, ha3.tail.tail, fun a b => Nat.le_add_left _ _⟩
   ·refine Spc.bind (sp_must _ t7) (fun _ t8 ⟨t9, e9, _⟩ => ?_)
    subst e9
    refine Spc.bind (sp_scalar t8) (fun ty t10 ⟨hty, t11, e11⟩ => ?_)
    subst e11
    refine Spc.ok ⟨vok_mk hn hty ⟨by omega, q1.2⟩ (fun _ => rfl) ⟨by decide, by decide, fun _ => .inl rfl, fun _ => rfl⟩, q2.tail.tail, fun a b => ?_⟩
    have p1 := q3 a b
    have p2 := mu_tail a b t9 (t11 :: t10)
    have p3 := mu_tail a b t11 t10
    have p4 := wk_br e6 (by decide) a b
    rw [mu_cons a b t6 t5]
    show (if 0 < n then b else 0) + mu a b t10 <= _
    rw [if_pos q1.1]
    omega
  ·subst e5
   rw [if_neg (by decide)]
   refine Spc.bind (sp_scalar t5) (fun ty t10 ⟨hty, t11, e11⟩ => ?_)
   subst e11
   have fin : ∀ v t12, (-9223372036854775808 < v /\ v < 9223372036854775808 /\ (ty = 3 -> v = 0 \/ v = 1) /\ (ty = 4 -> v = 0)) -> Al t12 -> (∀ a b, mu a b t12 <= mu a b t10) -> Spc (some (.ok ((⟨u.text, ty, 0, v, u.at_⟩ : Vr), t12))) (fun v t5 => VOK v /\ Al t5 /\ ∀ a b, csV b v + mu a b t5 <= mu a b (t11 :: t10)) := by
    intro v t12 q1 q2 q3
    refine Spc.ok ⟨vok_mk hn hty ⟨by decide, by decide⟩ (fun q => absurd q (by decide)) q1, q2, fun a b => ?_⟩
    have p1 := q3 a b
    have p3 := mu_tail a b t11 t10
    show 0 + mu a b t12 <= _
    omega
   refine Spc.bind (sp_may _ t10) (fun b t12 hm => ?_)
   rcases hm with ⟨rfl, t13, e5, e6⟩ | ⟨rfl, e5⟩
   ·subst e5
    rw [if_pos rfl]
    exact Spc.bind (ri_value ha3.tail.tail hty) (fun v t14 ⟨q1, q2, q3⟩ => fin v t14 q1 q2 (fun a b => Nat.le_trans (q3 a b) (Nat.le_add_left _ _)))
   ·subst e5
    rw [if_neg (by decide)]
    exact fin 0 t12 ⟨by decide, by decide, fun _ => .inl rfl, fun _ => rfl⟩ ha3.tail (fun a b => Nat.le_refl _)
 ·subst e7
  refine ⟨q1, q2.tail, fun a b => ?_⟩
  have p1 := q3 a b
  have p2 := mu_tail a b t (u :: t4 :: t3)
  have p3 := mu_tail a b u (t4 :: t3)
  have p4 := mu_tail a b t4 t3
  have p5 := mu_tail a b t7 t6
  omega
theorem sumN_app {α : Type} (f : α -> Nat) (l : List α) (x : α) : sumN f (l ++ [x]) = sumN f l + f x := by
 induction l with
 | nil => show f x + 0 = 0 + f x; omega
 | cons y l ih => show f y + sumN f (l ++ [x]) = f y + sumN f l + f x; rw [ih]; omega
structure RVs (ts : List Tok) (l : List Vr) (ts' : List Tok) : Prop where
 ok : ∀ v ∈ l, VOK v
 ln : l.length <= 64
 al : Al ts'
 cs : ∀ a b, sumN (csV b) l + mu a b ts' <= mu a b ts
theorem ri_vars (ts : List Tok) : ∀ (m : Nat) (acc : List Vr) (t1 : List Tok), RVs ts acc t1 -> Spc (varsL numT m acc t1) (RVs ts)
 | 0, acc, t1, ha => Spc.no
 | m + 1, acc, t1, ha => by
  unfold varsL
  split
  ·split
   ·exact Spc.fail
   ·refine Spc.bind (ri_var ha.al) (fun s t2 hs => ri_vars ts m _ t2 ⟨fun x hx => ?_, ?_, hs.al, fun a b => ?_⟩)
    ·rcases List.mem_append.1 hx with hx | hx
     ·exact ha.ok x hx
     ·rw [List.mem_singleton.1 hx]; exact hs.ok
    ·have := ha.ln
     rw [List.length_append, List.length_singleton]; omega
    ·rw [sumN_app]
     have h5 := ha.cs a b
     have h6 := hs.cs a b
     omega
  ·exact Spc.ok ha
structure RP (ts : List Tok) (l : List Pm) (ts' : List Tok) : Prop where
 ok : ∀ p ∈ l, nameB p.name = true /\ typedB p.type = true
 ln : l.length <= 8
 al : Al ts'
 cs : ∀ a b, a * l.length + mu a b ts' <= mu a b ts
theorem ri_params (ts : List Tok) : ∀ (m : Nat) (acc : List Pm) (t1 : List Tok), RP ts acc t1 -> Spc (rowP (tx [41]) paramP m acc t1) (RP ts)
 | 0, acc, t1, ha => Spc.no
 | m + 1, acc, t1, ha => by
  unfold rowP
  split
  ·exact Spc.ok ha
  ·refine Spc.bind (P := fun p t2 => RP ts (acc ++ [p]) t2) ?_ (fun p t2 hp => ?_)
   ·unfold paramP
    split
    ·exact Spc.fail
    ·rename_i hc
     refine Spc.bind (sp_name t1) (fun u t2 ⟨e1, hk⟩ => ?_)
     subst e1
     have hn := ha.al.hd.nm hk
     refine Spc.bind (sp_must _ t2) (fun _ t3 ⟨t4, e2, _⟩ => ?_)
     subst e2
     refine Spc.bind (sp_scalar t3) (fun ty t5 ⟨hty, t6, e3⟩ => ?_)
     subst e3
     refine Spc.ok ⟨fun x hx => ?_, ?_, ha.al.tail.tail.tail, fun a b => ?_⟩
     ·rcases List.mem_append.1 hx with hx | hx
      ·exact ha.ok x hx
      ·rw [List.mem_singleton.1 hx]; exact ⟨hn, hty⟩
     ·have h1 := ha.ln
      have h2 : ¬ (u.kind = 1 /\ acc.length = 8) := hc
      rw [List.length_append, List.length_singleton]; omega
     ·have h1 := ha.cs a b
      have q1 := mu_tail a b u (t4 :: t6 :: t5)
      have q2 := mu_tail a b t4 (t6 :: t5)
      have q3 := mu_tail a b t6 t5
      rw [List.length_append, List.length_singleton, Nat.mul_add, Nat.mul_one]
      omega
   ·split
    ·exact Spc.ok hp
    ·refine Spc.bind (sp_must _ t2) (fun _ t3 ⟨t4, e2, _⟩ => ?_)
     subst e2
     split
     ·exact Spc.fail
     ·refine ri_params ts m _ t3 ⟨hp.ok, hp.ln, hp.al.tail, fun a b => ?_⟩
      have h1 := hp.cs a b
      have q1 := mu_tail a b t4 t3
      omega
structure RF (ts : List Tok) (f : Fc) (ts' : List Tok) : Prop where
 ok : FOK True f
 al : Al ts'
 cs : ∀ a b, a + csF a b f + mu a b ts' <= mu a b ts
 ns : nsF f <= 30
theorem ri_func {n : Nat} {R : PRec} (h : RI R) {ts : List Tok} (ha : Al ts) : Spc (functionP n R 0 ts) (RF ts) := by
 unfold functionP
 refine Spc.bind (sp_must _ ts) (fun _ t1 ⟨t, e1, _⟩ => ?_)
 subst e1
 refine Spc.bind (sp_name t1) (fun u t2 ⟨e1, hk⟩ => ?_)
 subst e1
 have hn := ha.tail.hd.nm hk
 refine Spc.bind (sp_must _ t2) (fun _ t3 ⟨t4, e2, e2x⟩ => ?_)
 subst e2
 refine Spc.bind (ri_params t3 n [] t3 ⟨(fun p hp => by cases hp), (by show 0 <= 8; omega), ha.tail.tail.tail, fun a b => by show a * 0 + mu a b t3 <= mu a b t3; omega⟩) (fun ps t5 hp => ?_)
 refine Spc.bind (sp_must _ t5) (fun _ t6 ⟨t7, e3, _⟩ => ?_)
 subst e3
 have ha6 := hp.al.tail
 refine Spc.bind (sp_may _ t6) (fun b t8 hm => ?_)
 refine Spc.bind (P := fun ty t9 => (ty = 0 \/ typedB ty = true) /\ Al t9 /\ ∀ a b, mu a b t9 <= mu a b t6) ?_ (fun ty t9 ⟨q1, q2, q3⟩ => ?_)
 ·rcases hm with ⟨rfl, t10, e5, e6⟩ | ⟨rfl, e5⟩
  ·subst e5
   rw [if_pos rfl]
   refine (sp_scalar t8).mono (fun ty t9 ⟨hty, t11, e11⟩ => ?_)
   subst e11
   refine ⟨.inr hty, ha6.tail.tail, fun a b => ?_⟩
   have p1 := mu_tail a b t10 (t11 :: t9)
   have p2 := mu_tail a b t11 t9
   omega
  ·subst e5
   rw [if_neg (by decide)]
   exact Spc.ok ⟨.inl rfl, ha6, fun a b => Nat.le_refl _⟩
 ·refine Spc.bind (h.block t9 0 q2 (by omega)) (fun l t10 hb => Spc.ok ⟨⟨hn, q1, hp.ln, hp.ok, hb.ln, hb.ok, fun _ => rfl⟩, hb.al, fun a b => ?_, ?_⟩)
  ·have p1 := hb.cs a b
   have p2 := q3 a b
   have p3 := hp.cs a b
   have p4 := mu_tail a b t7 t6
   have p5 := mu_tail a b t (u :: t4 :: t3)
   have p6 := mu_tail a b u (t4 :: t3)
   have p7 := wk_br e2x (by decide) a b
   rw [mu_cons a b t4 t3] at p6
   show a + (a * ps.length + b + b + csSs a b l) + mu a b t10 <= _
   omega
  ·have p1 := hb.ns
   show 1 + (nsSs l).foldr max 0 <= 30
   omega
structure RFs (ts : List Tok) (l : List Fc) (ts' : List Tok) : Prop where
 ok : ∀ f ∈ l, FOK True f
 ln : l.length <= 64
 al : Al ts'
 cs : ∀ a b, sumN (csF a b) l + mu a b ts' <= mu a b ts
 ns : (l.map nsF).foldr max 0 <= 30
theorem ri_funcs {n : Nat} {R : PRec} (h : RI R) (ts : List Tok) : ∀ (m : Nat) (acc : List Fc) (t1 : List Tok), RFs ts acc t1 -> Spc (funcsL n R m acc t1) (RFs ts)
 | 0, acc, t1, ha => Spc.no
 | m + 1, acc, t1, ha => by
  unfold funcsL
  split
  ·split
   ·exact Spc.fail
   ·refine Spc.bind (ri_func h ha.al) (fun s t2 hs => ri_funcs h ts m _ t2 ⟨fun x hx => ?_, ?_, hs.al, fun a b => ?_, ?_⟩)
    ·rcases List.mem_append.1 hx with hx | hx
     ·exact ha.ok x hx
     ·rw [List.mem_singleton.1 hx]; exact hs.ok
    ·have := ha.ln
     rw [List.length_append, List.length_singleton]; omega
    ·rw [sumN_app]
     have h5 := ha.cs a b
     have h6 := hs.cs a b
     omega
    ·rw [List.map_append, List.map_singleton, foldr_snoc]
     have h5 := ha.ns
     have h6 := hs.ns
     omega
  ·exact Spc.ok ha
structure RM (ts : List Tok) (m : Md) : Prop where
 ok : MOK True m
 cs : ∀ a b, sumN (csV b) m.vars + sumN (csF a b) m.funcs <= mu a b ts
 ns : nsM m <= 30
theorem ri_mod {n : Nat} {ts : List Tok} (ha : Al ts) : Spc (modP numT n ts) (fun m _ => RM ts m) := by
 unfold modP
 refine Spc.bind (ri_vars ts n [] ts ⟨(fun p hp => by cases hp), (by show 0 <= 64; omega), ha, fun a b => by show 0 + mu a b ts <= mu a b ts; omega⟩) (fun vs t1 hv => ?_)
 refine Spc.bind (ri_funcs (ri_prec n) t1 n [] t1 ⟨(fun p hp => by cases hp), (by show 0 <= 64; omega), hv.al, (fun a b => by show 0 + mu a b t1 <= mu a b t1; omega), (by show 0 <= 30; omega)⟩) (fun fs t2 hf => ?_)
 split
 ·refine Spc.ok ⟨⟨hv.ln, hf.ln, hv.ok, hf.ok⟩, fun a b => ?_, hf.ns⟩
  have p1 := hv.cs a b
  have p2 := hf.cs a b
  show sumN (csV b) vs + sumN (csF a b) fs <= _
  omega
 ·exact Spc.fail
theorem num_kind (m : List UInt8) : (numS fxB m).2 ≠ 1 := by
 have hw : ∀ n, (wholeS m n).2 ≠ 1 := by
  intro n
  unfold wholeS
  split
  ·show (0 : Int) ≠ 1; decide
  ·show (3 : Int) ≠ 1; decide
 unfold numS
 dsimp only
 split
 ·exact hw _
 ·split
  ·split
   ·show (4 : Int) ≠ 1; decide
   ·show (0 : Int) ≠ 1; decide
  ·exact hw _
theorem piece_name (m : List UInt8) (h1 : (pieceS fxB m).2 = 1) : nameB ⟨(m.take (pieceS fxB m).1).toArray⟩ = true := by
 obtain ⟨q, hq⟩ : ∃ q, q = pieceS fxB m := ⟨_, rfl⟩
 have hq2 := hq
 rw [<- hq] at h1 ⊢
 unfold pieceS at hq2
 simp only at hq2
 by_cases a1 : letterB (m.headD 0).toNat = true
 ·rw [if_pos a1] at hq2
  split at hq2
  ·rw [hq2] at h1; exact absurd h1 (by decide)
  ·rename_i h24
   split at hq2
   ·rw [hq2] at h1; exact absurd (show (2 : Int) = 1 from h1) (by decide)
   ·rename_i hw
    rw [hq2]
    show nameB ⟨(m.take (runN inNameB m)).toArray⟩ = true
    cases m with
    | nil => exact absurd a1 (by decide)
    | cons c r =>
     have hc : inNameB c.toNat = true := by unfold inNameB; rw [show letterB c.toNat = true from a1]; rfl
     have hr : runN inNameB (c :: r) = runN inNameB r + 1 := by show (if inNameB c.toNat then _ else _) = _; rw [if_pos hc]
     have hle := runN_le inNameB (c :: r)
     have hsz : (⟨((c :: r).take (runN inNameB (c :: r))).toArray⟩ : ByteArray).size = runN inNameB (c :: r) := by
      show (List.toArray _).size = _
      rw [List.size_toArray, List.length_take]; omega
     have hrun : ∀ (l : List UInt8), runN inNameB (l.take (runN inNameB l)) = runN inNameB l := by
      intro l
      induction l with
      | nil => rfl
      | cons d l ih =>
       show runN inNameB ((d :: l).take (if inNameB d.toNat then runN inNameB l + 1 else 0)) = (if inNameB d.toNat then runN inNameB l + 1 else 0)
       by_cases hd : inNameB d.toNat = true
       ·rw [if_pos hd, List.take_succ_cons]
        show (if inNameB d.toNat then _ else _) = _
        rw [if_pos hd, ih]
       ·rw [if_neg hd]; rfl
     unfold nameB
     have hbt : bt ⟨((c :: r).take (runN inNameB (c :: r))).toArray⟩ 0 = (c.toNat : Int) := by
      rw [<- bt_at _ 0 (by rw [hsz, hr]; exact Nat.succ_pos _)]
      have e : ∀ (l : List UInt8) (h : 0 < (⟨l.toArray⟩ : ByteArray).size) (h2 : 0 < l.length), (⟨l.toArray⟩ : ByteArray)[0]'h = l[0]'h2 := fun l h h2 => rfl
      have h2 : 0 < ((c :: r).take (runN inNameB (c :: r))).length := by rw [hr]; simp
      show (((⟨((c :: r).take (runN inNameB (c :: r))).toArray⟩ : ByteArray)[0]'(by rw [hsz, hr]; exact Nat.succ_pos _)).toNat : Int) = _
      rw [e _ _ h2]
      have e3 : ((c :: r).take (runN inNameB (c :: r)))[0]'h2 = c := by simp only [hr, List.take_succ_cons, List.getElem_cons_zero]
      rw [e3]
     rw [hsz, hbt]
     show (decide (0 < runN inNameB (c :: r)) && decide (runN inNameB (c :: r) <= 24) && letterB c.toNat && (runN inNameB ((c :: r).take (runN inNameB (c :: r))) == runN inNameB (c :: r)) && !wordB _) = true
     rw [hrun, decide_eq_true (by rw [hr]; exact Nat.succ_pos _), decide_eq_true (by omega), show letterB c.toNat = true from a1]
     simpa using hw
 ·rw [if_neg a1] at hq2
  by_cases a2 : digitB (m.headD 0).toNat = true
  ·rw [if_pos a2] at hq2
   rw [hq2] at h1
   exact absurd h1 (num_kind m)
  ·rw [if_neg a2] at hq2
   exfalso
   split at hq2
   ·split at hq2 <;> (rw [hq2] at h1; exact absurd h1 (by decide))
   ·split at hq2
    ·rw [hq2] at h1; exact absurd h1 (by decide)
    ·split at hq2 <;> (rw [hq2] at h1; exact absurd h1 (by decide))
def brc (l : List UInt8) : Nat := l.countP (fun c => c == 40 || c == 91 || c == 123)
theorem brc_app (l m : List UInt8) : brc (l ++ m) = brc l + brc m := List.countP_append
theorem brc_take (l : List UInt8) (i j : Nat) (h : i <= j) : brc (l.take i) <= brc (l.take j) := by
 obtain ⟨k, rfl⟩ : ∃ k, j = i + k := ⟨j - i, by omega⟩
 rw [List.take_add, brc_app]; omega
theorem mu_app (a b : Nat) (l m : List Tok) : mu a b (l ++ m) = mu a b l + mu a b m := by
 induction l with
 | nil => exact (Nat.zero_add _).symm
 | cons t r ih => show wk a b t + mu a b (r ++ m) = wk a b t + mu a b r + mu a b m; rw [ih]; omega
theorem br_le (w : List UInt8) : (if brB w = true then 1 else 0) <= brc w := by
 split
 ·rename_i h
  unfold brB at h
  simp only [Bool.or_eq_true, beq_iff_eq] at h
  rcases h with (rfl | rfl) | rfl <;> decide
 ·exact Nat.zero_le _
theorem lexL_tg (l : List UInt8) (hz : l.length <= 16384) : ∀ (k i : Nat) (out ts : List Tok), lexL fxB l k i out = some (.ok ts) -> i <= l.length -> (∀ t ∈ out, t.kind = 1 -> nameB t.text = true) -> mu 0 1 out <= brc (l.take i) -> (∀ t ∈ ts, t.kind = 1 -> nameB t.text = true) /\ mu 0 1 ts <= brc l
 | 0, _, _, _, h, _, _, _ => by cases h
 | k + 1, i, out, ts, h, hi, ho, hb => by
  unfold lexL at h
  by_cases hl : i < l.length
  ·rw [if_pos hl] at h
   simp only at h
   split at h
   ·have h1 := runN_le noLine (l.drop i)
    rw [List.length_drop] at h1
    exact lexL_tg l hz k _ out ts h (by omega) ho (Nat.le_trans hb (brc_take l _ _ (by omega)))
   ·split at h
    ·exact lexL_tg l hz k _ out ts h (by omega) ho (Nat.le_trans hb (brc_take l _ _ (by omega)))
    ·split at h
     ·injection h with h; cases h
     ·rename_i hp
      have hne : l.drop i ≠ [] := fun q => by
       have := congrArg List.length q
       rw [List.length_drop, List.length_nil] at this
       omega
      have hk := piece_tok (l.drop i) i hne (by rw [List.length_drop]; omega) hp
      have h1 := hk.1
      rw [List.length_drop] at h1
      refine lexL_tg l hz k _ _ ts h (by omega) ?_ ?_
      ·intro t ht hk1
       rcases List.mem_append.1 ht with ht | ht
       ·exact ho t ht hk1
       ·obtain rfl : t = _ := List.mem_singleton.1 ht
        exact piece_name _ hk1
      ·rw [mu_app, List.take_add, brc_app]
       have h2 : mu 0 1 [(⟨(pieceS fxB (l.drop i)).2, ⟨((l.drop i).take (pieceS fxB (l.drop i)).1).toArray⟩, i⟩ : Tok)] = (0 + if brB ((l.drop i).take (pieceS fxB (l.drop i)).1) = true then 1 else 0) + 0 := rfl
       have h3 := br_le ((l.drop i).take (pieceS fxB (l.drop i)).1)
       rw [h2]
       omega
  ·rw [if_neg hl] at h
   injection h with h
   injection h with h
   rw [<- h]
   refine ⟨fun t ht hk1 => ?_, ?_⟩
   ·rcases List.mem_append.1 ht with ht | ht
    ·exact ho t ht hk1
    ·obtain rfl : t = _ := List.mem_singleton.1 ht
     exact absurd (show (6 : Int) = 1 from hk1) (by decide)
   ·rw [mu_app]
    have h2 : mu 0 1 [(⟨6, ⟨#[]⟩, l.length⟩ : Tok)] = 0 := rfl
    have h3 := brc_take l i l.length hi
    rw [List.take_length] at h3
    rw [h2]; omega
theorem tokens_al {l : List UInt8} {ts : List Tok} (h : tokensS fxB l = .ok ts) : Al ts /\ mu 0 1 ts <= brc l := by
 have hk := tokensS_keeps l
 rw [h] at hk
 unfold tokensS at h
 by_cases hz : 16384 < l.length
 ·rw [if_pos hz] at h; cases h
 ·rw [if_neg hz] at h
  obtain ⟨r, hr⟩ := lexL_more fxB l (l.length + 1) 0 [] (by omega)
  rw [hr] at h
  have hr2 : r = .ok ts := h
  rw [hr2] at hr
  have h1 := lexL_tg l (by omega) _ _ _ _ hr (by omega) (fun t ht => by cases ht) (Nat.zero_le _)
  exact ⟨⟨fun t ht => ⟨hk.2.2 t ht, h1.1 t ht⟩, hk.2.1⟩, h1.2⟩
theorem zMd_made (l : List UInt8) : MOK True zMd /\ (sumN (csV 0) zMd.vars + sumN (csF 1 0) zMd.funcs <= 16385) /\ (sumN (csV 1) zMd.vars + sumN (csF 0 1) zMd.funcs <= brc l) /\ nsM zMd <= 30 :=
 ⟨⟨Nat.zero_le _, Nat.zero_le _, (fun v hv => by cases hv), (fun v hv => by cases hv)⟩, Nat.zero_le _, Nat.zero_le _, Nat.zero_le _⟩
theorem parse_made (l : List UInt8) : MOK True (PARSE l).1 /\ (sumN (csV 0) (PARSE l).1.vars + sumN (csF 1 0) (PARSE l).1.funcs <= 16385) /\ (sumN (csV 1) (PARSE l).1.vars + sumN (csF 0 1) (PARSE l).1.funcs <= brc l) /\ nsM (PARSE l).1 <= 30 := by
 have hk := tokensS_keeps l
 cases ht : tokensS fxB l with
 | error e =>
  have e1 : PARSE l = (zMd, e) := by unfold PARSE parseR; simp only [ht]
  rw [e1]; exact zMd_made l
 | ok ts =>
  rw [ht] at hk
  obtain ⟨ha, hb⟩ := tokens_al ht
  obtain ⟨r, hr⟩ := modP_more numT ts hk.2.1
  cases r with
  | ok p =>
   have e1 : PARSE l = (p.1, (0, 0)) := parseR_ok ht (t := p.2) hr
   rw [e1]
   have h3 := ri_mod ha p.1 p.2 hr
   have h4 := h3.cs 1 0
   have h5 := h3.cs 0 1
   rw [mu_len] at h4
   exact ⟨h3.ok, Nat.le_trans h4 hk.2.1, Nat.le_trans h5 hb, h3.ns⟩
  | error e =>
   have e1 : PARSE l = (zMd, e) := parseR_er ht hr
   rw [e1]; exact zMd_made l
theorem brc_no {l : List UInt8} (h : ∀ c ∈ l, c ≠ 40 /\ c ≠ 91 /\ c ≠ 123) : brc l = 0 := by
 unfold brc
 rw [List.countP_eq_zero]
 intro c hc
 obtain ⟨h1, h2, h3⟩ := h c hc
 simp [h1, h2, h3]
theorem brc_name {s : ByteArray} (h : nameB s = true) : brc (toL s) = 0 := by
 refine brc_no (fun c hc => ?_)
 unfold nameB at h
 simp only [Bool.and_eq_true, beq_iff_eq] at h
 have h1 := runN_flat inNameB (toL s) (by show runN inNameB s.data.toList = s.data.toList.length; rw [h.1.2, Array.length_toList]; rfl) c hc
 refine ⟨?_, ?_, ?_⟩ <;> (rintro rfl; exact absurd h1 (by decide))
theorem brc_digs {l : List UInt8} (h : ∀ c ∈ l, 48 <= c.toNat /\ c.toNat <= 57) : brc l = 0 := by
 refine brc_no (fun c hc => ?_)
 have h1 := h c hc
 refine ⟨?_, ?_, ?_⟩
 ·rintro rfl; exact absurd h1 (by decide)
 ·rintro rfl; exact absurd h1 (by decide)
 ·rintro rfl; exact absurd h1 (by decide)
theorem brc_dec (n : Nat) : brc (Lib.decDigits n) = 0 := brc_digs (dec_digs n)
theorem brc_fix {n : Nat} (hn : n < 9223372036854775808) : brc (fixT n) = 0 := by
 obtain ⟨_, ws, ps, e0, _, _, _, _, w3, p3⟩ := fixP_fixT n hn
 rw [e0, brc_app, brc_digs w3]
 show 0 + brc ([46] ++ ps) = 0
 rw [brc_app, brc_digs p3]; rfl
theorem brc_ty {t : Int} (h : typedB t = true) : brc (tyT t) = 0 := by
 unfold typedB at h
 rw [decide_eq_true_eq] at h
 have : t = 1 \/ t = 2 \/ t = 3 \/ t = 4 := by omega
 rcases this with rfl | rfl | rfl | rfl <;> rfl
theorem brc_sg {o : Int} (h1 : 1 <= o) (h2 : o <= 15) : brc (sgT o) = 0 := by
 have : o = 1 \/ o = 2 \/ o = 3 \/ o = 4 \/ o = 5 \/ o = 6 \/ o = 7 \/ o = 8 \/ o = 9 \/ o = 10 \/ o = 11 \/ o = 12 \/ o = 13 \/ o = 14 \/ o = 15 := by omega
 rcases this with rfl | rfl | rfl | rfl | rfl | rfl | rfl | rfl | rfl | rfl | rfl | rfl | rfl | rfl | rfl <;> rfl
theorem brc_tabs (n : Nat) : brc (tabsT n) = 0 := brc_no (fun c hc => by rw [List.eq_of_mem_replicate hc]; decide)
def bI (l : List It) : Nat := brc (rend l)
theorem bI_cons (k : Int) (w : List UInt8) (l : List It) : bI ((k, w) :: l) = brc w + bI l := brc_app _ _
theorem bI_app (a b : List It) : bI (a ++ b) = bI a + bI b := by unfold bI; rw [rend_app, brc_app]
theorem bI_nil : bI [] = 0 := rfl
theorem bI_par (e : Ex) (l : Int) : bI (parI (decide (strongE e < l)) (itE e)) = pc 1 l e + bI (itE e) := by
 unfold pc
 by_cases h : strongE e < l
 ·rw [decide_eq_true h, if_pos h]
  show bI ((5, [40]) :: (itE e ++ [(5, [41])])) = _
  rw [bI_cons, bI_app]
  show 1 + (bI (itE e) + 0) = _; omega
 ·rw [decide_eq_false h, if_neg h, Nat.zero_add]; rfl
theorem bI_row (l : List Ex) (h : ∀ e ∈ l, bI (itE e) = csE 0 1 e) : ∀ b, bI (rowI (l.map itE) b) = csEs 0 1 l := by
 induction l with
 | nil => intro b; rfl
 | cons e l ih =>
  intro b
  show bI ((if b then [(5, [44]), (0, [32])] else []) ++ itE e ++ rowI (l.map itE) true) = csE 0 1 e + csEs 0 1 l
  rw [bI_app, bI_app, h e List.mem_cons_self, ih (fun x hx => h x (List.mem_cons_of_mem _ hx)) true]
  cases b
  ·show 0 + _ + _ = _; omega
  ·show 0 + _ + _ = _; omega
theorem bI_E {R : Prop} {e : Ex} (h : EOK R e) : bI (itE e) = csE 0 1 e := by
 induction h with
 | @int n a t p h _ => show bI [(3, Lib.itoa n)] = 0; rw [bI_cons, itoa_nat, brc_dec]; rfl
 | @fix n a t p h _ => show bI [(4, fixT n)] = 0; rw [bI_cons, brc_fix h]; rfl
 | @bool n a t p h _ => rcases h with rfl | rfl <;> rfl
 | null _ => rfl
 | @name s a t p h _ => show bI [(1, toL s)] = 0; rw [bI_cons, brc_name h]; rfl
 | @index s x a t p h _ _ ih =>
  show bI ((1, toL s) :: (5, [91]) :: (itE x ++ [(5, [93])])) = 0 + 1 + 0 + (csE 0 1 x + 0)
  rw [bI_cons, bI_cons, bI_app, brc_name h, ih]
  show 0 + (1 + (csE 0 1 x + 0)) = _; omega
 | @call s l a t p h _ _ _ ih =>
  show bI ((1, toL s) :: (5, [40]) :: (rowI (itEs l) false ++ [(5, [41])])) = 0 + 1 + 0 + csEs 0 1 l
  rw [bI_cons, bI_cons, bI_app, brc_name h, itEs_map, bI_row l ih]
  show 0 + (1 + (csEs 0 1 l + 0)) = _; omega
 | @one o x a t p ho _ _ ih =>
  show bI ((5, sgT o) :: parI (decide (strongE x < 6)) (itE x)) = 0 + 0 + pc 1 6 x + (csE 0 1 x + 0)
  rw [bI_cons, bI_par, ih, brc_sg (by omega) (by omega)]
  omega
 | @both o x y a t p h1 h2 _ _ _ ix iy =>
  show bI (parI (decide (strongE x < leftB (strongB 9 o))) (itE x) ++ (0, [32]) :: (5, sgT o) :: (0, [32]) :: parI (decide (strongE y < strongB 9 o + 1)) (itE y)) = 0 + 0 + (pc 1 (leftB (strongB 9 o)) x + pc 1 (strongB 9 o + 1) y) + (csE 0 1 x + (csE 0 1 y + 0))
  rw [bI_app, bI_cons, bI_cons, bI_cons, bI_par, bI_par, ix, iy, brc_sg (by omega) (by omega)]
  show _ + (0 + (0 + (0 + _))) = _; omega
theorem bI_lin (l : List St) (h : ∀ s ∈ l, ∀ lv, bI (itS s lv) = csS 0 1 s) (lv : Nat) : bI (linI lv (l.map itS)) = csSs 0 1 l := by
 induction l with
 | nil => rfl
 | cons s l ih =>
  show bI ((0, tabsT lv) :: (itS s lv ++ (0, [10]) :: linI lv (l.map itS))) = csS 0 1 s + csSs 0 1 l
  rw [bI_cons, bI_app, bI_cons, brc_tabs, h s List.mem_cons_self, ih (fun x hx => h x (List.mem_cons_of_mem _ hx))]
  show 0 + (_ + (0 + _)) = _; omega
theorem bI_bod (l : List St) (h : ∀ s ∈ l, ∀ lv, bI (itS s lv) = csS 0 1 s) (lv : Nat) : bI (bodI (itSs l) lv) = 1 + csSs 0 1 l := by
 show bI ((0, [32]) :: (5, [123]) :: (0, [10]) :: (linI (lv + 1) (itSs l) ++ [(0, tabsT lv), (5, [125])])) = _
 rw [bI_cons, bI_cons, bI_cons, bI_app, itSs_map, bI_lin l h, bI_cons, brc_tabs]
 show 0 + (1 + (0 + (csSs 0 1 l + (0 + 0)))) = _; omega
theorem bI_S {R : Prop} {s : St} (h : SOK R s) : ∀ lv, bI (itS s lv) = csS 0 1 s := by
 induction h with
 | @lt s ty e a p h1 h2 he _ =>
  intro lv
  show bI ((2, [108, 101, 116]) :: (0, [32]) :: (1, toL s) :: (5, [58]) :: (0, [32]) :: (2, tyT ty) :: (0, [32]) :: (5, [61]) :: (0, [32]) :: (itE e ++ [(5, [59])])) = 0 + (csE 0 1 e + 0) + 0 + 0 + 0 + 0 + 0
  simp only [bI_cons, bI_app, brc_name h1, brc_ty h2, bI_E he, bI_nil]
  show 0 + (0 + (0 + (0 + (0 + (0 + (0 + (0 + (0 + (csE 0 1 e + (0 + 0)))))))))) = _; omega
 | @set s e a p h1 he _ =>
  intro lv
  show bI ((1, toL s) :: (0, [32]) :: (5, [61]) :: (0, [32]) :: (itE e ++ [(5, [59])])) = 0 + (csE 0 1 e + 0) + 0 + 0 + 0 + 0 + 0
  simp only [bI_cons, bI_app, brc_name h1, bI_E he, bI_nil]
  show 0 + (0 + (0 + (0 + (csE 0 1 e + (0 + 0))))) = _; omega
 | @put s i e a p h1 hi he _ =>
  intro lv
  show bI ((1, toL s) :: (5, [91]) :: (itE i ++ (5, [93]) :: (0, [32]) :: (5, [61]) :: (0, [32]) :: (itE e ++ [(5, [59])]))) = 0 + (csE 0 1 i + (csE 0 1 e + 0)) + 1 + 0 + 0 + 0 + 0
  simp only [bI_cons, bI_app, brc_name h1, bI_E he, bI_E hi, bI_nil]
  show 0 + (1 + (csE 0 1 i + (0 + (0 + (0 + (0 + (csE 0 1 e + (0 + 0)))))))) = _; omega
 | @iff e b l a p he _ _ _ _ _ ib il =>
  intro lv
  show bI (((2, [105, 102]) :: (0, [32]) :: (itE e ++ bodI (itSs b) lv)) ++ (if l.length = 1 /\ (l.headD (.mk 0 ⟨#[]⟩ 0 [] [] [] 0 0)).kind = 4 then (0, [32]) :: (2, [101, 108, 115, 101]) :: (0, [32]) :: (itSs l).headD (fun _ => []) lv else if 0 < l.length then (0, [32]) :: (2, [101, 108, 115, 101]) :: bodI (itSs l) lv else [])) = 0 + (csE 0 1 e + 0) + 0 + 1 + csSs 0 1 b + (if l.length = 1 /\ (l.headD (.mk 0 ⟨#[]⟩ 0 [] [] [] 0 0)).kind = 4 \/ l.length = 0 then 0 else 1) + csSs 0 1 l
  rw [bI_app, bI_cons, bI_cons, bI_app, bI_E he, bI_bod b ib]
  have e1 : brc [105, 102] = 0 := rfl
  have e2 : brc [32] = 0 := rfl
  have e3 : brc [101, 108, 115, 101] = 0 := rfl
  rw [e1, e2]
  by_cases hc : l.length = 1 /\ (l.headD (.mk 0 ⟨#[]⟩ 0 [] [] [] 0 0)).kind = 4
  ·rw [if_pos hc, if_pos (.inl hc), bI_cons, bI_cons, bI_cons, e2, e3]
   match l, hc, il with
   | [s], hc, il =>
    have := il s List.mem_cons_self lv
    show _ + (0 + (0 + (0 + bI (itS s lv)))) = _ + 0 + (csS 0 1 s + 0)
    omega
  ·rw [if_neg hc]
   by_cases h0 : 0 < l.length
   ·rw [if_pos h0, if_neg (by omega), bI_cons, bI_cons, e2, e3, bI_bod l il]
    omega
   ·have hl0 : l = [] := List.length_eq_zero_iff.1 (by omega)
    subst hl0
    rw [if_neg h0, if_pos (.inr rfl), bI_nil]
    show _ = _ + 0 + 0
    omega
 | @whl e b a p he _ _ _ ib =>
  intro lv
  show bI ((2, [119, 104, 105, 108, 101]) :: (0, [32]) :: (itE e ++ bodI (itSs b) lv)) = 0 + (csE 0 1 e + 0) + 0 + 1 + csSs 0 1 b + 0 + 0
  rw [bI_cons, bI_cons, bI_app, bI_E he, bI_bod b ib]
  show 0 + (0 + _) = _; omega
 | ret0 _ => exact fun lv => rfl
 | @ret e a p he _ =>
  intro lv
  show bI ((2, [114, 101, 116, 117, 114, 110]) :: (0, [32]) :: (itE e ++ [(5, [59])])) = 0 + (csE 0 1 e + 0) + 0 + 0 + 0 + 0 + 0
  rw [bI_cons, bI_cons, bI_app, bI_E he]
  show 0 + (0 + (csE 0 1 e + 0)) = _; omega
 | @call e a p _ he _ =>
  intro lv
  show bI (itE e ++ [(5, [59])]) = 0 + (csE 0 1 e + 0) + 0 + 0 + 0 + 0 + 0
  rw [bI_app, bI_E he]
  show csE 0 1 e + 0 = _; omega
theorem bI_pm : ∀ (l : List Pm), (∀ p ∈ l, nameB p.name = true /\ typedB p.type = true) -> ∀ b, bI (pmI l b) = 0
 | [], _, b => rfl
 | x :: l, h, b => by
  have hx := h x List.mem_cons_self
  show bI ((if b then [(5, [44]), (0, [32])] else []) ++ (1, toL x.name) :: (5, [58]) :: (0, [32]) :: (2, tyT x.type) :: pmI l true) = 0
  rw [bI_app, bI_cons, bI_cons, bI_cons, bI_cons, brc_name hx.1, brc_ty hx.2, bI_pm l (fun y hy => h y (List.mem_cons_of_mem _ hy)) true]
  cases b <;> rfl
theorem bI_F {R : Prop} {f : Fc} (h : FOK R f) : bI (fcI f) = csF 0 1 f := by
 show bI ((2, [102, 110]) :: (0, [32]) :: (1, toL f.name) :: (5, [40]) :: (pmI f.params false ++ (5, [41]) :: ((if f.type = 0 then [] else [(5, [58]), (0, [32]), (2, tyT f.type)]) ++ bodI (itSs f.body) 0 ++ [(0, [10])]))) = 0 * f.params.length + 1 + 1 + csSs 0 1 f.body
 have e0 : bI (if f.type = 0 then [] else [(5, [58]), (0, [32]), (2, tyT f.type)]) = 0 := by
  by_cases h0 : f.type = 0
  ·rw [if_pos h0]; rfl
  ·rw [if_neg h0, bI_cons, bI_cons, bI_cons, brc_ty (h.ty.resolve_left h0)]; rfl
 simp only [bI_cons, bI_app, brc_name h.nm, bI_pm _ h.ps, e0, bI_bod _ (fun s hs => bI_S (h.bs s hs)), bI_nil]
 show 0 + (0 + (0 + (1 + (0 + (0 + (0 + (1 + csSs 0 1 f.body) + (0 + 0))))))) = _
 omega
theorem bI_V {v : Vr} (h : VOK v) : bI (vrI v) = csV 1 v := by
 obtain ⟨h1, h2, h3, h4, h5⟩ := h.facts
 show bI ((2, [118, 97, 114]) :: (0, [32]) :: (1, toL v.name) :: (5, [58]) :: (0, [32]) :: ((if 0 < v.size then [(5, [91]), (3, Lib.itoa v.size), (5, [93]), (0, [32])] else []) ++ (2, tyT v.type) :: (vlI v ++ [(5, [59]), (0, [10])]))) = csV 1 v
 have e1 : bI (if 0 < v.size then [(5, [91]), (3, Lib.itoa v.size), (5, [93]), (0, [32])] else []) = csV 1 v := by
  unfold csV
  by_cases hs : 0 < v.size
  ·rw [if_pos hs, if_pos hs, bI_cons, bI_cons, show v.size = ((v.size.toNat : Nat) : Int) by omega, itoa_nat, brc_dec]; rfl
  ·rw [if_neg hs, if_neg hs]; rfl
 have e2 : bI (vlI v) = 0 := by
  have hl := h.lo
  have hu := h.hi
  unfold vlI
  by_cases h0 : v.value = 0
  ·rw [if_pos h0]; rfl
  ·rw [if_neg h0, bI_cons, bI_cons, bI_cons, bI_app]
   have e3 : bI (if v.type = 1 \/ v.type = 2 then (if v.value < 0 then [(5, [45])] else []) else []) = 0 := by
    split
    ·split <;> rfl
    ·rfl
   have e4 : bI [if v.type = 1 then (3, Lib.decDigits v.value.natAbs) else if v.type = 2 then (4, fixT v.value.natAbs) else (2, [116, 114, 117, 101])] = 0 := by
    split
    ·rw [bI_cons, brc_dec]; rfl
    ·split
     ·rw [bI_cons, brc_fix (by omega)]; rfl
     ·rfl
   rw [e3, e4]; rfl
 simp only [bI_cons, bI_app, brc_name h1, brc_ty h2, e1, e2, bI_nil]
 show 0 + (0 + (0 + (0 + (0 + (csV 1 v + (0 + (0 + (0 + (0 + 0))))))))) = _
 omega
theorem bI_flat {α : Type} (f : α -> List It) (g : α -> Nat) : ∀ (l : List α), (∀ x ∈ l, bI (f x) = g x) -> bI (l.map f).flatten = sumN g l
 | [], _ => rfl
 | x :: l, h => by
  rw [List.map_cons, List.flatten_cons, bI_app, h x List.mem_cons_self, bI_flat f g l (fun y hy => h y (List.mem_cons_of_mem _ hy))]; rfl
theorem bI_M {R : Prop} {m : Md} (h : MOK R m) : bI (mdI m) = sumN (csV 1) m.vars + sumN (csF 0 1) m.funcs := by
 unfold mdI
 rw [bI_app, bI_flat _ _ _ (fun v hv => bI_V (h.vs v hv)), bI_flat _ _ _ (fun f hf => bI_F (h.fs f hf))]
theorem name_24 {s : ByteArray} (h : nameB s = true) : s.size <= 24 := by
 unfold nameB at h
 simp only [Bool.and_eq_true, decide_eq_true_eq] at h
 exact h.1.1.1.2
theorem leaf_wt {n : Int} {s : ByteArray} (h : 0 <= n /\ n < 9223372036854775808) (hs : s.size <= 24) : 20 + s.size + (Lib.itoa n).length + (fixT n).length <= 130 := by
 have h1 := itoa_i64 (show I64 n from by unfold I64; omega)
 have h2 := fixT_i64 (show I64 n from by unfold I64; omega)
 omega
theorem exs_wtB (l : List Ex) (h : ∀ e ∈ l, wtE e + 2 <= 200 * csE 1 0 e /\ smE e) : wtEs l <= 200 * csEs 1 0 l /\ smEs l := by
 induction l with
 | nil => exact ⟨Nat.le_refl _, trivial⟩
 | cons e l ih =>
  have h1 := h e List.mem_cons_self
  have h2 := ih (fun x hx => h x (List.mem_cons_of_mem _ hx))
  refine ⟨?_, h1.2, h2.2⟩
  show 2 + wtE e + wtEs l <= 200 * (csE 1 0 e + csEs 1 0 l)
  omega
theorem mk_wt {k o n : Int} {s : ByteArray} {l : List Ex} {a t p : Int} (h : 0 <= n /\ n < 9223372036854775808) (hs : s.size <= 24) (hl : ∀ e ∈ l, wtE e + 2 <= 200 * csE 1 0 e /\ smE e) : wtE (.mk k o n s l a t p) + 2 <= 200 * csE 1 0 (.mk k o n s l a t p) /\ smE (.mk k o n s l a t p) := by
 have h1 := leaf_wt h hs
 have h2 := exs_wtB l hl
 refine ⟨?_, by omega, by omega, h2.2⟩
 have e1 : wtE (.mk k o n s l a t p) = 20 + s.size + (Lib.itoa n).length + (fixT n).length + wtEs l := rfl
 have e2 : 1 + csEs 1 0 l <= csE 1 0 (.mk k o n s l a t p) := by
  show 1 + csEs 1 0 l <= 1 + _ + _ + csEs 1 0 l
  omega
 omega
theorem n0_24 : n0.size <= 24 := by decide
theorem wt_E {R : Prop} {e : Ex} (h : EOK R e) : wtE e + 2 <= 200 * csE 1 0 e /\ smE e := by
 induction h with
 | int h _ => exact mk_wt (by omega) n0_24 (fun e he => by cases he)
 | fix h _ => exact mk_wt (by omega) n0_24 (fun e he => by cases he)
 | bool h _ => exact mk_wt (by omega) n0_24 (fun e he => by cases he)
 | null _ => exact mk_wt (by omega) n0_24 (fun e he => by cases he)
 | name h _ => exact mk_wt (by omega) (name_24 h) (fun e he => by cases he)
 | index h _ _ ih => exact mk_wt (by omega) (name_24 h) (fun e he => by rw [List.mem_singleton.1 he]; exact ih)
 | call h _ _ _ ih => exact mk_wt (by omega) (name_24 h) ih
 | one _ _ _ ih => exact mk_wt (by omega) n0_24 (fun e he => by rw [List.mem_singleton.1 he]; exact ih)
 | both _ _ _ _ _ i1 i2 =>
  refine mk_wt (by omega) n0_24 (fun e he => ?_)
  rcases List.mem_cons.1 he with rfl | he
  ·exact i1
  ·rw [List.mem_singleton.1 he]; exact i2
def SW (s : St) : Prop := (∀ lv, lv + csS 1 0 s <= 20000 -> lv + 2 + wtS s lv <= 100000 * csS 1 0 s) /\ smS s
theorem sts_wtB (l : List St) (h : ∀ s ∈ l, SW s) : (∀ lv, lv + csSs 1 0 l <= 20000 -> wtSs l lv <= 100000 * csSs 1 0 l) /\ smSs l := by
 induction l with
 | nil => exact ⟨fun lv _ => Nat.zero_le _, trivial⟩
 | cons e l ih =>
  have h1 := h e List.mem_cons_self
  have h2 := ih (fun x hx => h x (List.mem_cons_of_mem _ hx))
  refine ⟨fun lv hl => ?_, h1.2, h2.2⟩
  have e1 : csSs 1 0 (e :: l) = csS 1 0 e + csSs 1 0 l := rfl
  rw [e1] at hl ⊢
  have h3 := h1.1 lv (by omega)
  have h4 := h2.1 lv (by omega)
  show lv + 2 + wtS e lv + wtSs l lv <= _
  omega
theorem st_wt {k : Int} {s : ByteArray} {t : Int} {es : List Ex} {b l : List St} {a p : Int} (hs : s.size <= 24) (he : ∀ e ∈ es, wtE e + 2 <= 200 * csE 1 0 e /\ smE e) (hb : ∀ s ∈ b, SW s) (hl : ∀ s ∈ l, SW s) : SW (.mk k s t es b l a p) := by
 have h1 := exs_wtB es he
 have h2 := sts_wtB b hb
 have h3 := sts_wtB l hl
 refine ⟨fun lv hlv => ?_, by omega, h1.2, h2.2, h3.2⟩
 have e1 : wtS (.mk k s t es b l a p) lv = 40 + s.size + 2 * lv + wtEs es + wtSs b (lv + 1) + wtSs l (lv + 1) := rfl
 have e2 : 1 + csEs 1 0 es + csSs 1 0 b + csSs 1 0 l <= csS 1 0 (.mk k s t es b l a p) := by
  show 1 + csEs 1 0 es + csSs 1 0 b + csSs 1 0 l <= 1 + csEs 1 0 es + _ + _ + csSs 1 0 b + _ + csSs 1 0 l
  omega
 have h4 := h2.1 (lv + 1) (by omega)
 have h5 := h3.1 (lv + 1) (by omega)
 have h6 := h1.1
 omega
theorem no_sw : ∀ s ∈ ([] : List St), SW s := fun s hs => by cases hs
theorem one_ex {R : Prop} {e : Ex} (h : EOK R e) : ∀ x ∈ [e], wtE x + 2 <= 200 * csE 1 0 x /\ smE x := fun x hx => by rw [List.mem_singleton.1 hx]; exact wt_E h
theorem wt_S {R : Prop} {s : St} (h : SOK R s) : SW s := by
 induction h with
 | lt h1 _ he _ => exact st_wt (name_24 h1) (one_ex he) no_sw no_sw
 | set h1 he _ => exact st_wt (name_24 h1) (one_ex he) no_sw no_sw
 | put h1 hi he _ =>
  refine st_wt (name_24 h1) (fun x hx => ?_) no_sw no_sw
  rcases List.mem_cons.1 hx with rfl | hx
  ·exact wt_E hi
  ·exact one_ex he x hx
 | iff he _ _ _ _ _ ib il => exact st_wt n0_24 (one_ex he) ib il
 | whl he _ _ _ ib => exact st_wt n0_24 (one_ex he) ib no_sw
 | ret0 _ => exact st_wt n0_24 (fun x hx => by cases hx) no_sw no_sw
 | ret he _ => exact st_wt n0_24 (one_ex he) no_sw no_sw
 | call _ he _ => exact st_wt n0_24 (one_ex he) no_sw no_sw
theorem wt_P : ∀ (l : List Pm), (∀ p ∈ l, nameB p.name = true /\ typedB p.type = true) -> wtPs l <= 32 * l.length
 | [], _ => Nat.zero_le _
 | x :: l, h => by
  have h1 := name_24 (h x List.mem_cons_self).1
  have h2 := wt_P l (fun y hy => h y (List.mem_cons_of_mem _ hy))
  show 8 + x.name.size + wtPs l <= 32 * (l.length + 1)
  omega
theorem wt_F {R : Prop} {f : Fc} (h : FOK R f) (hc : csF 1 0 f <= 16385) : wtF f <= 400 + 100000 * csF 1 0 f /\ smF f := by
 have h1 := name_24 h.nm
 have h2 := wt_P _ h.ps
 have h3 := h.pl
 have e1 : csF 1 0 f = 1 * f.params.length + 0 + 0 + csSs 1 0 f.body := rfl
 rw [e1] at hc ⊢
 have h4 := sts_wtB f.body (fun s hs => wt_S (h.bs s hs))
 have h5 := h4.1 1 (by omega)
 refine ⟨?_, by omega, by omega, (fun p hp => by have := name_24 (h.ps p hp).1; omega), h4.2⟩
 show 40 + f.name.size + wtPs f.params + wtSs f.body 1 <= _
 omega
theorem wt_V {v : Vr} (h : VOK v) : wtV v <= 200 /\ v.name.size <= 1000000000 := by
 obtain ⟨h1, h2, h3, h4, h5⟩ := h.facts
 have h6 := name_24 h1
 have hl := h.lo
 have hu := h.hi
 have h7 := itoa_i64 (show I64 v.size from by unfold I64; omega)
 have h8 := itoa_i64 (show I64 v.value from by unfold I64; omega)
 have h9 := fixT_i64 (show I64 v.value from by unfold I64; omega)
 refine ⟨?_, by omega⟩
 show 40 + v.name.size + (Lib.itoa v.size).length + (Lib.itoa v.value).length + (fixT v.value).length <= _
 omega
theorem sum_le {α : Type} (f g : α -> Nat) (c : Nat) : ∀ (l : List α), (∀ x ∈ l, f x <= c + 100000 * g x) -> sumN f l <= c * l.length + 100000 * sumN g l
 | [], _ => Nat.zero_le _
 | x :: l, h => by
  have h1 := h x List.mem_cons_self
  have h2 := sum_le f g c l (fun y hy => h y (List.mem_cons_of_mem _ hy))
  show f x + sumN f l <= c * (l.length + 1) + 100000 * (g x + sumN g l)
  rw [Nat.mul_add, Nat.mul_add]
  omega
theorem sum_mem {α : Type} (g : α -> Nat) : ∀ (l : List α), ∀ x ∈ l, g x <= sumN g l
 | y :: l, x, hx => by
  show g x <= g y + sumN g l
  rcases List.mem_cons.1 hx with rfl | hx
  ·omega
  ·have := sum_mem g l x hx; omega
theorem sm_made {R : Prop} {m : Md} (h : MOK R m) (hc : sumN (csF 1 0) m.funcs <= 16385) : SmM m := by
 refine ⟨fun v hv => ?_, fun f hf => (wt_F (h.fs f hf) (Nat.le_trans (sum_mem _ _ f hf) hc)).2, fun _ => ?_⟩
 ·have h1 := (h.vs v hv).lo
  have h2 := (h.vs v hv).hi
  exact ⟨(wt_V (h.vs v hv)).2, by omega, by omega⟩
 ·refine Nat.le_trans (mod_wt m) ?_
  have h1 := sum_le wtV (fun _ => 0) 200 m.vars (fun v hv => by have := (wt_V (h.vs v hv)).1; omega)
  have h2 := sum_le wtF (csF 1 0) 400 m.funcs (fun f hf => (wt_F (h.fs f hf) (Nat.le_trans (sum_mem _ _ f hf) hc)).1)
  have h3 : ∀ l : List Vr, sumN (fun _ => 0) l = 0 := fun l => by
   induction l with
   | nil => rfl
   | cons x l ih => show 0 + sumN _ l = 0; rw [ih]
  rw [h3] at h1
  have h4 := h.vl
  have h5 := h.fl
  show _ <= 140737488355328
  omega
theorem print_made (l : List UInt8) : SmM (PARSE l).1 /\ ((printS AGAIN (PARSE l).1 = ([], 2)) \/ (printS AGAIN (PARSE l).1 = (modT (PARSE l).1, 0) /\ wideB (modT (PARSE l).1) = false /\ brc (modT (PARSE l).1) <= brc l)) := by
 obtain ⟨h1, h2, h3, h4⟩ := parse_made l
 refine ⟨sm_made h1 (by omega), ?_⟩
 generalize (PARSE l).1 = m at *
 unfold printS
 rw [h1.ok]
 simp only [Bool.not_true, Bool.false_eq_true, if_false]
 by_cases hw : wideB (modT m) = true
 ·rw [if_pos hw]; exact .inl rfl
 ·have hw2 : wideB (modT m) = false := by simpa using hw
  rw [if_neg hw]
  have ha : AGAIN (modT m) = 0 := by
   rcases parse_back h1 hw2 with ⟨x, q1, _⟩ | ⟨q1, _⟩
   ·unfold AGAIN; rw [q1]
   ·omega
  rw [if_neg (by simpa using ha)]
  refine .inr ⟨rfl, hw2, ?_⟩
  rw [mod_text m (List.all_eq_true.2 (fun v hv => (h1.vs v hv).ok)) hw2]
  have := bI_M h1
  unfold bI at this
  omega
end Go.Proofs.YtpfdhihbecpbeaaGreatDoor.E
