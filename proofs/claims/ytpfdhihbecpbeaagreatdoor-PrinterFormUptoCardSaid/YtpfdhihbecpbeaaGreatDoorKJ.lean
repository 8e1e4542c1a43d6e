import Derived.Test.YtpfdhihbecpbeaaGreatDoorKF
import Derived.Lib.ItoaLen
import Derived.Test.YtpfdhihbecpbeaaGreatDoorKA
/- Contracts of the program's functions, and lemmas: no statement of its own. -/
namespace Go.Proofs.YtpfdhihbecpbeaaGreatDoor.E
open Go Go.RowKit Go.Proofs.YtpfdhihbecpbeaaGreatDoorW.PrintWords Go.Proofs.YtpfdhihbecpbeaaGreatDoorW.PrintLast Go.Proofs.YtpfdhihbecpbeaaGreatDoorW.PrintMore
set_option linter.unusedVariables false
set_option linter.unusedSimpArgs false
set_option maxRecDepth 100000
set_option maxHeartbeats 4000000
theorem z0e (u : Nat) : (UInt8.ofNat (48 + u % 10)).toNat = 48 + u % 10 := by
 rw [UInt8.toNat_ofNat']; omega
theorem x3m (l : List UInt8) (c : UInt8) : decU (l ++ [c]) = decU l * 10 + (c.toNat - 48) := by unfold decU; rw [List.foldl_append]; rfl
theorem z2e (u : Nat) : decU (Lib.decDigits u) = u := by
 induction u using Nat.strongRecOn with
 | _ u ih =>
  by_cases h : u < 10
  ·rw [Lib.decDigits, dif_pos h]
   show 0 * 10 + ((UInt8.ofNat (48 + u)).toNat - 48) = u
   have := z0e u
   rw [Nat.mod_eq_of_lt h] at this
   rw [this]; omega
  ·rw [Lib.decDigits, dif_neg h, x3m, ih (u / 10) (by omega), z0e]
   omega
theorem z2f (u : Nat) : ∀ c ∈ Lib.decDigits u, 48 <= c.toNat /\ c.toNat <= 57 := by
 induction u using Nat.strongRecOn with
 | _ u ih =>
  intro c hc
  have h9 := z0e u
  by_cases h : u < 10
  ·rw [Lib.decDigits, dif_pos h, List.mem_singleton] at hc
   rw [Nat.mod_eq_of_lt h] at h9
   rw [hc, h9]; omega
  ·rw [Lib.decDigits, dif_neg h, List.mem_append, List.mem_singleton] at hc
   rcases hc with hc | hc
   ·exact ih (u / 10) (by omega) c hc
   ·rw [hc, h9]; omega
theorem x1n (u : Nat) : Lib.decDigits u ≠ [] := by
 rw [Lib.decDigits]
 split <;> simp
theorem x1o (u : Nat) (h1 : 1 <= u) : (Lib.decDigits u).headD 0 ≠ 48 := by
 induction u using Nat.strongRecOn with
 | _ u ih =>
  by_cases h : u < 10
  ·rw [Lib.decDigits, dif_pos h]
   intro e
   have h2 := z0e u
   rw [Nat.mod_eq_of_lt h] at h2
   have e' : UInt8.ofNat (48 + u) = 48 := e
   rw [e'] at h2
   have : (48 : UInt8).toNat = 48 := rfl
   omega
  ·rw [Lib.decDigits, dif_neg h]
   have := ih (u / 10) (by omega) (by omega)
   cases hl : Lib.decDigits (u / 10) with
   | nil => exact absurd hl (x1n _)
   | cons a l => rw [hl] at this; exact this
theorem x7b : ∀ (k u : Nat), u < 10 ^ (k + 1) -> Lib.nDigits u <= k + 1
 | 0, u, h => by rw [Lib.nDigits_small (by simpa using h)]; omega
 | k + 1, u, h => by
  by_cases h1 : u < 10
  ·rw [Lib.nDigits_small h1]; omega
  ·rw [Lib.nDigits_big h1]
   have := x7b k (u / 10) (by rw [Nat.pow_succ] at h; omega)
   omega
theorem j4z (k u : Nat) (h : u < 10 ^ (k + 1)) : (Lib.decDigits u).length <= k + 1 := by
 rw [Lib.decDigits_length]; exact x7b k u h
def z1l : List Nat -> Nat
 | [] => 0
 | d :: ds => d * 10 ^ ds.length + z1l ds
theorem z9x : ∀ (ds : List Nat), (∀ d ∈ ds, d < 10) -> z1l ds < 10 ^ ds.length
 | [], _ => by decide
 | d :: ds, h => by
  have h1 := z9x ds (fun x hx => h x (List.mem_cons_of_mem _ hx))
  have h2 := h d List.mem_cons_self
  show d * 10 ^ ds.length + z1l ds < 10 ^ (ds.length + 1)
  rw [Nat.pow_succ]
  have h3 : d * 10 ^ ds.length <= 9 * 10 ^ ds.length := Nat.mul_le_mul_right _ (by omega)
  omega
theorem x7c : ∀ (ds : List Nat), (q4v ds).2.length = ds.length /\ (∀ d ∈ (q4v ds).2, d < 10) /\ 2 * z1l ds = (q4v ds).1 * 10 ^ ds.length + z1l (q4v ds).2
 | [] => ⟨rfl, (fun d h => by cases h), rfl⟩
 | d :: ds => by
  obtain ⟨h1, h2, h3⟩ := x7c ds
  have e : q4v (d :: ds) = ((2 * d + (q4v ds).1) / 10, (2 * d + (q4v ds).1) % 10 :: (q4v ds).2) := rfl
  rw [e]
  refine ⟨by simp [h1], fun x hx => ?_, ?_⟩
  ·rcases List.mem_cons.1 hx with rfl | hx
   ·omega
   ·exact h2 x hx
  ·show 2 * (d * 10 ^ ds.length + z1l ds) = (2 * d + (q4v ds).1) / 10 * 10 ^ (ds.length + 1) + ((2 * d + (q4v ds).1) % 10 * 10 ^ (q4v ds).2.length + z1l (q4v ds).2)
   rw [h1, Nat.pow_succ]
   generalize (q4v ds).1 = c at *
   generalize z1l (q4v ds).2 = v at *
   generalize 10 ^ ds.length = P at *
   have e2 : 2 * d + c = (2 * d + c) / 10 * 10 + (2 * d + c) % 10 := by omega
   generalize (2 * d + c) / 10 = q at *
   generalize (2 * d + c) % 10 = r at *
   have e3 : (2 * d + c) * P = (q * 10 + r) * P := by rw [<- e2]
   rw [Nat.add_mul, Nat.add_mul] at e3
   have e4 : q * (P * 10) = q * 10 * P := by rw [Nat.mul_comm P 10, Nat.mul_assoc]
   have e5 : 2 * (d * P + z1l ds) = 2 * d * P + 2 * z1l ds := by rw [Nat.mul_add, Nat.mul_assoc]
   omega
theorem z3g : ∀ (k w : Nat) (ds : List Nat), (∀ d ∈ ds, d < 10) -> q6k k w ds * 10 ^ ds.length <= 2 ^ k * (w * 10 ^ ds.length + z1l ds) /\ 2 ^ k * (w * 10 ^ ds.length + z1l ds) < (q6k k w ds + 1) * 10 ^ ds.length
 | 0, w, ds, h => by
  have h1 := z9x ds h
  show w * 10 ^ ds.length <= 1 * (w * 10 ^ ds.length + z1l ds) /\ 1 * (w * 10 ^ ds.length + z1l ds) < (w + 1) * 10 ^ ds.length
  rw [Nat.add_mul]
  omega
 | k + 1, w, ds, h => by
  obtain ⟨h1, h2, h3⟩ := x7c ds
  have ih := z3g k (2 * w + (q4v ds).1) (q4v ds).2 h2
  rw [h1] at ih
  have e : q6k (k + 1) w ds = q6k k (2 * w + (q4v ds).1) (q4v ds).2 := rfl
  rw [e]
  have e2 : 2 ^ (k + 1) * (w * 10 ^ ds.length + z1l ds) = 2 ^ k * ((2 * w + (q4v ds).1) * 10 ^ ds.length + z1l (q4v ds).2) := by
   rw [Nat.pow_succ, Nat.mul_assoc]
   congr 1
   rw [Nat.add_mul, Nat.mul_add, h3, Nat.mul_assoc]
   omega
  rw [e2]
  exact ih
theorem e32 : (2 : Nat) ^ 32 = 4294967296 := by kernel_rfl
theorem j0y (w u : Nat) (ds : List Nat) (h : ∀ d ∈ ds, d < 10) (hv : z1l ds * 4294967296 = u * 10 ^ ds.length) : q6k 32 w ds = w * 4294967296 + u := by
 rw [<- e32] at hv ⊢
 obtain ⟨h1, h2⟩ := z3g 32 w ds h
 have e : 2 ^ 32 * (w * 10 ^ ds.length + z1l ds) = (w * 2 ^ 32 + u) * 10 ^ ds.length := by
  rw [Nat.mul_add, Nat.mul_comm (2 ^ 32) (z1l ds), hv, Nat.add_mul, <- Nat.mul_assoc, Nat.mul_comm (2 ^ 32) w]
 rw [e] at h1 h2
 have p : 0 < 10 ^ ds.length := Nat.pow_pos (by decide)
 have h3 := Nat.le_of_mul_le_mul_right h1 p
 have h4 := Nat.lt_of_mul_lt_mul_right h2
 omega
theorem z7u (c : UInt8) (l : List UInt8) : z1l ((c :: l).map (fun c => c.toNat - 48)) = (c.toNat - 48) * 10 ^ l.length + z1l (l.map (fun c => c.toNat - 48)) := by
 show (c.toNat - 48) * 10 ^ (l.map (fun c => c.toNat - 48)).length + _ = _
 rw [List.length_map]
theorem x7d (q r P M u v : Nat) (e5 : u = q * M + r) (h2 : v * M = r * P) : (q * P + v) * M = u * P := by
 rw [e5, Nat.add_mul, Nat.add_mul, h2, Nat.mul_assoc, Nat.mul_comm P, <- Nat.mul_assoc]
theorem z2g (u : Nat) (h : u < 4294967296) : u * 10 / 4294967296 < 10 /\ (UInt8.ofNat (48 + u * 10 / 4294967296)).toNat = 48 + u * 10 / 4294967296 /\ (48 <= (UInt8.ofNat (48 + u * 10 / 4294967296)).toNat /\ (UInt8.ofNat (48 + u * 10 / 4294967296)).toNat <= 57) /\ (u * 10 % 4294967296 = 0 -> u * 10 / 4294967296 * 4294967296 = u * 10) /\ u * 10 = u * 10 / 4294967296 * 4294967296 + u * 10 % 4294967296 /\ u * 10 % 4294967296 < 4294967296 := by
 have h1 := Nat.div_add_mod (u * 10) 4294967296
 have h2 := Nat.mod_lt (u * 10) (show 4294967296 > 0 by decide)
 have h3 : u * 10 / 4294967296 < 10 := (Nat.div_lt_iff_lt_mul (by decide)).2 (by omega)
 generalize u * 10 % 4294967296 = r at *
 generalize u * 10 / 4294967296 = q at *
 have e1 : (UInt8.ofNat (48 + q)).toNat = 48 + q := by rw [UInt8.toNat_ofNat']; omega
 rw [e1]
 refine ⟨h3, rfl, ⟨by omega, by omega⟩, fun h => ?_, ?_, h2⟩
 ·rw [h, Nat.add_zero] at h1; rw [<- h1, Nat.mul_comm]
 ·rw [Nat.mul_comm q]; exact h1.symm
theorem x1p : ∀ (k u : Nat), u < 4294967296 -> 4294967296 ∣ u * 10 ^ k -> (∀ c ∈ q3m k u, 48 <= c.toNat /\ c.toNat <= 57) /\ z1l ((q3m k u).map (fun c => c.toNat - 48)) * 4294967296 = u * 10 ^ (q3m k u).length
 | 0, u, h, hd => by
  have : u = 0 := by
   rw [Nat.pow_zero, Nat.mul_one] at hd
   exact Nat.eq_zero_of_dvd_of_lt hd h
  rw [this]
  have e0 : q3m 0 0 = [] := by rw [q3m]
  rw [e0]
  exact ⟨(fun c h => by cases h), by simp [z1l]⟩
 | k + 1, u, h, hd => by
  obtain ⟨hdg, e1, hq, hz, hz2, hr⟩ := z2g u h
  have hd2 : 4294967296 ∣ u * 10 % 4294967296 * 10 ^ k := by
   have e3 : u * 10 ^ (k + 1) = u * 10 / 4294967296 * 10 ^ k * 4294967296 + u * 10 % 4294967296 * 10 ^ k := by
    rw [Nat.pow_succ, Nat.mul_comm (10 ^ k) 10, <- Nat.mul_assoc]
    conv => lhs; rw [(z2g u h).2.2.2.2.1]
    rw [Nat.add_mul]
    congr 1
    rw [Nat.mul_assoc, Nat.mul_comm 4294967296, <- Nat.mul_assoc]
   rw [e3] at hd
   exact (Nat.dvd_add_right (Nat.dvd_mul_left _ _)).1 hd
  obtain ⟨h1, h2⟩ := x1p k (u * 10 % 4294967296) hr hd2
  have e : q3m (k + 1) u = UInt8.ofNat (48 + u * 10 / 4294967296) :: if u * 10 % 4294967296 = 0 then [] else q3m k (u * 10 % 4294967296) := by rw [q3m]
  rw [e]
  by_cases h0 : u * 10 % 4294967296 = 0
  ·rw [if_pos h0]
   refine ⟨fun c hc => ?_, ?_⟩
   ·rw [List.mem_singleton] at hc
    rw [hc]; exact hq
   ·rw [z7u, e1, List.length_singleton, List.length_nil, Nat.pow_zero, Nat.pow_one, Nat.mul_one, Nat.add_sub_cancel_left]
    have e7 : z1l (([] : List UInt8).map (fun c => c.toNat - 48)) = 0 := rfl
    rw [e7, Nat.add_zero]
    exact hz h0
  ·rw [if_neg h0]
   refine ⟨fun c hc => ?_, ?_⟩
   ·rcases List.mem_cons.1 hc with rfl | hc
    ·exact hq
    ·exact h1 c hc
   ·clear hd hd2 hq hz e
    rw [z7u, e1, List.length_cons, Nat.pow_succ, Nat.add_sub_cancel_left]
    generalize 10 ^ (q3m k (u * 10 % 4294967296)).length = P at *
    generalize z1l ((q3m k (u * 10 % 4294967296)).map (fun c => c.toNat - 48)) = V at *
    clear h1 e1 h0 hdg
    generalize u * 10 / 4294967296 = q at *
    generalize u * 10 % 4294967296 = r at *
    clear h hr
    revert hz2 h2
    generalize 4294967296 = M
    intro h2 hz2
    exact (x7d q r P M (u * 10) V hz2 h2).trans (by rw [Nat.mul_assoc, Nat.mul_comm 10])
theorem z4o : ∀ (j k u : Nat), u < 4294967296 -> 4294967296 ∣ u * 10 ^ j -> 1 <= j -> (q3m k u).length <= j
 | j, 0, u, h, hd, hj => by show 0 <= j; omega
 | 0, k + 1, u, h, hd, hj => by omega
 | j + 1, k + 1, u, h, hd, hj => by
  have e : q3m (k + 1) u = UInt8.ofNat (48 + u * 10 / 4294967296) :: if u * 10 % 4294967296 = 0 then [] else q3m k (u * 10 % 4294967296) := by rw [q3m]
  have hr := (z2g u h).2.2.2.2.2
  have hd2 : 4294967296 ∣ u * 10 % 4294967296 * 10 ^ j := by
   have e3 : u * 10 ^ (j + 1) = u * 10 / 4294967296 * 10 ^ j * 4294967296 + u * 10 % 4294967296 * 10 ^ j := by
    rw [Nat.pow_succ, Nat.mul_comm (10 ^ j) 10, <- Nat.mul_assoc]
    conv => lhs; rw [(z2g u h).2.2.2.2.1]
    rw [Nat.add_mul]
    congr 1
    rw [Nat.mul_assoc, Nat.mul_comm 4294967296, <- Nat.mul_assoc]
   rw [e3] at hd
   exact (Nat.dvd_add_right (Nat.dvd_mul_left _ _)).1 hd
  rw [e]
  by_cases h0 : u * 10 % 4294967296 = 0
  ·rw [if_pos h0]; show 1 <= j + 1; omega
  ·rw [if_neg h0]
   have hj1 : 1 <= j := by
    cases j with
    | zero =>
     rw [Nat.pow_zero, Nat.mul_one] at hd2
     exact absurd (Nat.eq_zero_of_dvd_of_lt hd2 hr) h0
    | succ j => omega
   have := z4o j k (u * 10 % 4294967296) hr hd2 hj1
   simp only [List.length_cons]
   omega
theorem j5a (k u : Nat) : q3m (k + 1) u ≠ [] := by
 show _ :: _ ≠ []
 simp
theorem j6y (u j : Nat) (h : 32 <= j) : 4294967296 ∣ u * 10 ^ j := by
 refine Nat.dvd_trans ?_ (Nat.dvd_mul_left _ _)
 have e : 10 ^ j = 10 ^ 32 * 10 ^ (j - 32) := by rw [<- Nat.pow_add]; congr 1; omega
 rw [e]
 exact Nat.dvd_trans ⟨23283064365386962890625, by kernel_rfl⟩ (Nat.dvd_mul_right _ _)
theorem j5b (ws ps : List UInt8) (h : ∀ c ∈ ws, 48 <= c.toNat /\ c.toNat <= 57) : (ws ++ 46 :: ps).takeWhile (· != 46) = ws /\ (ws ++ 46 :: ps).dropWhile (· != 46) = 46 :: ps := by
 induction ws with
 | nil => exact ⟨rfl, rfl⟩
 | cons c ws ih =>
  have h1 := h c List.mem_cons_self
  have hc : (c != 46) = true := by
   rw [bne_iff_ne]; intro e; rw [e] at h1; exact absurd h1.1 (by decide)
  obtain ⟨h2, h3⟩ := ih (fun x hx => h x (List.mem_cons_of_mem _ hx))
  simp only [List.cons_append, List.takeWhile_cons, List.dropWhile_cons, hc, if_true, h2, h3, and_self]
theorem z3h (n : Nat) (h : n < 9223372036854775808) : z8g (q4o n) = some (n : Int) /\ ∃ ws ps, q4o n = ws ++ 46 :: ps /\ ws ≠ [] /\ ps ≠ [] /\ ws.length <= 10 /\ ps.length <= 32 /\ (∀ c ∈ ws, 48 <= c.toNat /\ c.toNat <= 57) /\ ∀ c ∈ ps, 48 <= c.toNat /\ c.toNat <= 57 := by
 have e0 : q4o n = Lib.decDigits (n / 4294967296) ++ 46 :: q3m 40 (n % 4294967296) := by
  unfold q4o
  rw [if_neg (by omega)]
  simp
 obtain ⟨ws, hws⟩ : ∃ ws, ws = Lib.decDigits (n / 4294967296) := ⟨_, rfl⟩
 obtain ⟨ps, hps⟩ : ∃ ps, ps = q3m 40 (n % 4294967296) := ⟨_, rfl⟩
 rw [<- hws, <- hps] at e0
 have w1 := z2f (n / 4294967296)
 have w2 := x1n (n / 4294967296)
 have w3 := j4z 9 (n / 4294967296) (by omega)
 have w4 := z2e (n / 4294967296)
 have w5 : ws.headD 0 = 48 -> ws.length = 1 := by
  rw [hws]
  intro e
  by_cases hz : 1 <= n / 4294967296
  ·exact absurd e (x1o _ hz)
  ·rw [show n / 4294967296 = 0 by omega, Lib.decDigits, dif_pos (by decide)]; rfl
 obtain ⟨p1, p2⟩ := x1p 40 (n % 4294967296) (by omega) (j6y _ _ (by decide))
 have p3 := z4o 32 40 (n % 4294967296) (by omega) (j6y _ _ (by decide)) (by decide)
 have p4 := j5a 39 (n % 4294967296)
 rw [<- hws] at w1 w2 w3 w4
 rw [<- hps] at p1 p2 p3 p4
 clear hws hps
 refine ⟨?_, ws, ps, e0, w2, p4, w3, p3, w1, p1⟩
 obtain ⟨t1, t2⟩ := j5b ws ps w1
 have l1 := List.length_pos_iff.2 w2
 have l2 := List.length_pos_iff.2 p4
 rw [e0]
 unfold z8g
 simp only [t1, t2, List.tail_cons]
 rw [if_neg, if_neg, if_neg, w4, j0y (n / 4294967296) (n % 4294967296)]
 ·congr 1
  rw [Nat.div_add_mod']
 ·intro d hd
  obtain ⟨c, hc, rfl⟩ := List.mem_map.1 hd
  have := p1 c hc
  omega
 ·rw [List.length_map]; exact p2
 ·omega
 ·simp only [Bool.not_eq_true', Bool.not_eq_false, List.all_eq_true, List.mem_append, Bool.and_eq_true, decide_eq_true_eq]
  intro c hc
  rcases hc with hc | hc
  ·exact w1 c hc
  ·exact p1 c hc
 ·intro hh
  rcases hh with hh | hh | hh | hh | hh | hh
  ·cases hh
  ·omega
  ·omega
  ·omega
  ·omega
  ·have h5 := w5 hh.1
   have h6 := hh.2
   rw [h5] at h6
   exact absurd h6 (by decide)
abbrev It := Int × List UInt8
def q2z : List It -> List UInt8
 | [] => []
 | x :: l => x.2 ++ q2z l
theorem q1o (a b : List It) : q2z (a ++ b) = q2z a ++ q2z b := by
 induction a with
 | nil => rfl
 | cons x a ih => show x.2 ++ q2z (a ++ b) = _; rw [ih, <- List.append_assoc]; rfl
theorem x7e (x : It) (l : List It) : q2z (x :: l) = x.2 ++ q2z l := rfl
def j0z (b : Bool) (l : List It) : List It := if b then (5, [40]) :: (l ++ [(5, [41])]) else l
def z8i : List (List It) -> Bool -> List It
 | [], _ => []
 | x :: l, more => (if more then [(5, [44]), (0, [32])] else []) ++ x ++ z8i l true
def q5b (s : Int) : Int := if s = 3 then 4 else s
def exI (k op num : Int) (name : ByteArray) (args : List Ex) (fs : List (List It)) : List It :=
 if k = 1 then [(3, Lib.itoa num)]
 else if k = 2 then [(4, q4o num)]
 else if k = 3 then [(2, if num = 1 then [116, 114, 117, 101] else [102, 97, 108, 115, 101])]
 else if k = 4 then [(2, [110, 117, 108, 108])]
 else if k = 5 then [(1, toL name)]
 else if k = 6 then (1, toL name) :: (5, [91]) :: (fs.headD [] ++ [(5, [93])])
 else if k = 7 then (1, toL name) :: (5, [40]) :: (z8i fs false ++ [(5, [41])])
 else if k = 8 then (5, sgT op) :: j0z (decide (q0v (args.headD (.mk 0 0 0 ⟨#[]⟩ [] 0 0 0)) < 6)) (fs.headD [])
 else if k = 9 then
  j0z (decide (q0v (args.headD (.mk 0 0 0 ⟨#[]⟩ [] 0 0 0)) < q5b (q0u 9 op))) (fs.headD []) ++ (0, [32]) :: (5, sgT op) :: (0, [32]) ::
  j0z (decide (q0v (args.tail.headD (.mk 0 0 0 ⟨#[]⟩ [] 0 0 0)) < q0u 9 op + 1)) (fs.tail.headD [])
 else []
mutual
def itE : Ex -> List It
 | .mk k op num name args _ _ _ => exI k op num name args (x8m args)
def x8m : List Ex -> List (List It)
 | [] => []
 | e :: l => itE e :: x8m l
end
theorem z0f (l : List Ex) : x8m l = l.map itE := by
 induction l with
 | nil => rfl
 | cons e l ih => show itE e :: x8m l = _; rw [ih]; rfl
def inE (least : Int) (e : Ex) : List It := j0z (decide (q0v e < least)) (itE e)
def z9y (lv : Nat) : List (Nat -> List It) -> List It
 | [] => []
 | f :: l => (0, q2y lv) :: (f lv ++ (0, [10]) :: z9y lv l)
def z5t (fs : List (Nat -> List It)) (lv : Nat) : List It := (0, [32]) :: (5, [123]) :: (0, [10]) :: (z9y (lv + 1) fs ++ [(0, q2y lv), (5, [125])])
def stI (k : Int) (name : ByteArray) (type : Int) (es : List (List It)) (els : List St) (fb fl : List (Nat -> List It)) (lv : Nat) : List It :=
 if k = 1 then (2, [108, 101, 116]) :: (0, [32]) :: (1, toL name) :: (5, [58]) :: (0, [32]) :: (2, tyT type) :: (0, [32]) :: (5, [61]) :: (0, [32]) :: (es.headD [] ++ [(5, [59])])
 else if k = 2 then (1, toL name) :: (0, [32]) :: (5, [61]) :: (0, [32]) :: (es.headD [] ++ [(5, [59])])
 else if k = 3 then (1, toL name) :: (5, [91]) :: (es.headD [] ++ (5, [93]) :: (0, [32]) :: (5, [61]) :: (0, [32]) :: (es.tail.headD [] ++ [(5, [59])]))
 else if k = 4 then
  ((2, [105, 102]) :: (0, [32]) :: (es.headD [] ++ z5t fb lv)) ++
  (if els.length = 1 /\ (els.headD (.mk 0 ⟨#[]⟩ 0 [] [] [] 0 0)).kind = 4 then (0, [32]) :: (2, [101, 108, 115, 101]) :: (0, [32]) :: fl.headD (fun _ => []) lv
  else if 0 < els.length then (0, [32]) :: (2, [101, 108, 115, 101]) :: z5t fl lv
  else [])
 else if k = 5 then (2, [119, 104, 105, 108, 101]) :: (0, [32]) :: (es.headD [] ++ z5t fb lv)
 else if k = 6 then (if es = [] then [(2, [114, 101, 116, 117, 114, 110])] else (2, [114, 101, 116, 117, 114, 110]) :: (0, [32]) :: es.headD []) ++ [(5, [59])]
 else if k = 7 then es.headD [] ++ [(5, [59])]
 else [(5, [59])]
mutual
def itS : St -> Nat -> List It
 | .mk k name type exprs body els _ _, lv => stI k name type (x8m exprs) els (z0g body) (z0g els) lv
def z0g : List St -> List (Nat -> List It)
 | [] => []
 | s :: l => itS s :: z0g l
end
theorem z0h (l : List St) : z0g l = l.map itS := by
 induction l with
 | nil => rfl
 | cons e l ih => show itS e :: z0g l = _; rw [ih]; rfl
def vlI (v : Vr) : List It :=
 if v.value = 0 then [] else (0, [32]) :: (5, [61]) :: (0, [32]) ::
  ((if v.type = 1 \/ v.type = 2 then (if v.value < 0 then [(5, [45])] else []) else []) ++
  [if v.type = 1 then (3, Lib.decDigits v.value.natAbs) else if v.type = 2 then (4, q4o v.value.natAbs) else (2, [116, 114, 117, 101])])
def vrI (v : Vr) : List It :=
 (2, [118, 97, 114]) :: (0, [32]) :: (1, toL v.name) :: (5, [58]) :: (0, [32]) ::
 ((if 0 < v.size then [(5, [91]), (3, Lib.itoa v.size), (5, [93]), (0, [32])] else []) ++ (2, tyT v.type) :: (vlI v ++ [(5, [59]), (0, [10])]))
def pmI : List Pm -> Bool -> List It
 | [], _ => []
 | x :: l, more => (if more then [(5, [44]), (0, [32])] else []) ++ (1, toL x.name) :: (5, [58]) :: (0, [32]) :: (2, tyT x.type) :: pmI l true
def fcI (f : Fc) : List It :=
 (2, [102, 110]) :: (0, [32]) :: (1, toL f.name) :: (5, [40]) :: (pmI f.params false ++ (5, [41]) ::
 ((if f.type = 0 then [] else [(5, [58]), (0, [32]), (2, tyT f.type)]) ++ z5t (z0g f.body) 0 ++ [(0, [10])]))
def mdI (m : Md) : List It := (m.vars.map vrI).flatten ++ (m.funcs.map fcI).flatten
def Ap (f : List UInt8 -> List UInt8) (q : List UInt8) : Prop := ∀ p, ∃ r, f p = p ++ r /\ (q1w (f p) = false -> r = q)
theorem j1a {p r : List UInt8} (h : q1w (p ++ r) = false) : q1w p = false := by
 unfold q1w at h ⊢
 simp only [decide_eq_false_iff_not, List.length_append] at h ⊢
 omega
theorem Ap.id : Ap (fun p => p) [] := fun p => ⟨[], by simp, fun _ => rfl⟩
theorem Ap.put (q : List UInt8) : Ap (fun p => p ++ q) q := fun p => ⟨q, rfl, fun _ => rfl⟩
theorem Ap.comp {f g : List UInt8 -> List UInt8} {q r : List UInt8} (h : Ap f q) (k : Ap g r) : Ap (fun p => g (f p)) (q ++ r) := fun p => by
 obtain ⟨a, h1, h2⟩ := h p
 obtain ⟨b, k1, k2⟩ := k (f p)
 refine ⟨a ++ b, by show g (f p) = _; rw [k1, h1, List.append_assoc], fun hw => ?_⟩
 have hw2 : q1w (g (f p)) = false := hw
 rw [k2 hw2, h2 (j1a (by rw [<- k1]; exact hw2))]
theorem Ap.cut {f : List UInt8 -> List UInt8} {q : List UInt8} (h : Ap f q) : Ap (fun p => if q1w p then p else f p) q := fun p => by
 show ∃ r, (if q1w p then p else f p) = _ /\ (q1w (if q1w p then p else f p) = false -> _)
 by_cases hp : q1w p = true
 ·rw [if_pos hp]; exact ⟨[], by simp, fun hw => by rw [hp] at hw; cases hw⟩
 ·rw [if_neg hp]; exact h p
theorem Ap.eq {f g : List UInt8 -> List UInt8} {q r : List UInt8} (h : Ap f q) (e : g = f) (e2 : r = q) : Ap g r := by rw [e, e2]; exact h
inductive Aps : List (List UInt8 -> List UInt8) -> List (List It) -> Prop
 | nil : Aps [] []
 | cons {f l i j} : Ap f (q2z i) -> Aps l j -> Aps (f :: l) (i :: j)
theorem Aps.head {l : List (List UInt8 -> List UInt8)} {j : List (List It)} (h : Aps l j) : Ap (l.headD id) (q2z (j.headD [])) := by
 cases h with
 | nil => exact Ap.id
 | cons h _ => exact h
theorem Aps.tail {l : List (List UInt8 -> List UInt8)} {j : List (List It)} (h : Aps l j) : Aps l.tail j.tail := by
 cases h with
 | nil => exact .nil
 | cons _ h => exact h
theorem z9z {f : List UInt8 -> List UInt8} {i : List It} (h : Ap f (q2z i)) (b : Bool) : Ap (q4k f b) (q2z (j0z b i)) := by
 cases b with
 | false => exact h
 | true =>
  refine Ap.eq (((Ap.put [40]).comp h).comp (Ap.put [41])) ?_ ?_
  ·funext p; rfl
  ·show q2z ((5, [40]) :: (i ++ [(5, [41])])) = _
   simp [q1o, q2z]
theorem j6z {l : List (List UInt8 -> List UInt8)} {j : List (List It)} (h : Aps l j) : ∀ b, Ap (z9d l b) (q2z (z8i j b)) := by
 induction h with
 | nil => intro b; exact Ap.id
 | @cons f l i j h1 h2 ih =>
  intro b
  cases b with
  | false =>
   refine Ap.eq (h1.comp (ih true)) ?_ ?_
   ·funext p; rfl
   ·show q2z ([] ++ i ++ z8i j true) = _
    rw [q1o]; rfl
  | true =>
   refine Ap.eq (((Ap.put [44, 32]).comp h1).comp (ih true)) ?_ ?_
   ·funext p; rfl
   ·show q2z ([(5, [44]), (0, [32])] ++ i ++ z8i j true) = _
    rw [q1o, q1o]; rfl
theorem x3n (o : Int) : q0u 9 o < 6 := by
 have h : ∀ k : Nat, k < 14 -> ([0, 4, 4, 5, 5, 5, 3, 3, 3, 3, 3, 3, 2, 1] : List Int).getD k 0 < 6 := by decide
 show ([0, 4, 4, 5, 5, 5, 3, 3, 3, 3, 3, 3, 2, 1] : List Int).getD o.toNat 0 < 6
 by_cases hk : o.toNat < 14
 ·exact h _ hk
 ·rw [List.getD_eq_getElem?_getD, List.getElem?_eq_none (by show 14 <= _; omega)]; decide
theorem j5c (e : Ex) : (e.kind == 9) = decide (q0v e < 6) := by
 unfold q0v
 by_cases h : e.kind = 9
 ·rw [h]
  have := x3n e.op
  simp [this]
 ·unfold q0u
  rw [if_pos h]
  simp [h]
theorem j5d (l s : Int) : (decide (l < s) || (l == s && s == 3)) = decide (l < q5b s) := by
 unfold q5b
 by_cases h : s = 3
 ·rw [if_pos h, h, show ((3 : Int) == 3) = true from rfl, Bool.and_true, Bool.eq_iff_iff, Bool.or_eq_true, decide_eq_true_iff, decide_eq_true_iff, beq_iff_eq]
  omega
 ·rw [if_neg h, show (s == 3) = false from beq_eq_false_iff_ne.2 h, Bool.and_false, Bool.or_false]
theorem j1b (r s : Int) : decide (r <= s) = decide (r < s + 1) := by
 rw [Bool.eq_iff_iff]; simp only [decide_eq_true_eq]; omega
theorem j7a {k op num : Int} {name : ByteArray} {args : List Ex} {fs : List (List UInt8 -> List UInt8)} {j : List (List It)} (h : Aps fs j) : Ap (q5f k op num name args fs) (q2z (exI k op num name args j)) := fun p => by
 unfold q5f exI
 by_cases k1 : k = 1
 ·rw [if_pos k1, if_pos k1]
  exact (Ap.put _).eq rfl (by simp [q2z]) p
 rw [if_neg k1, if_neg k1]
 by_cases k2 : k = 2
 ·rw [if_pos k2, if_pos k2]
  exact (Ap.put _).eq rfl (by simp [q2z]) p
 rw [if_neg k2, if_neg k2]
 by_cases k3 : k = 3
 ·rw [if_pos k3, if_pos k3]
  exact (Ap.put _).eq rfl (by simp [q2z]) p
 rw [if_neg k3, if_neg k3]
 by_cases k4 : k = 4
 ·rw [if_pos k4, if_pos k4]
  exact (Ap.put _).eq rfl (by simp [q2z]) p
 rw [if_neg k4, if_neg k4]
 by_cases k5 : k = 5
 ·rw [if_pos k5, if_pos k5]
  exact (Ap.put _).eq rfl (by simp [q2z]) p
 rw [if_neg k5, if_neg k5]
 by_cases k6 : k = 6
 ·rw [if_pos k6, if_pos k6]
  refine Ap.eq (((Ap.put (toL name ++ [91])).comp h.head).comp (Ap.put [93])) (g := fun p => fs.headD id (p ++ toL name ++ [91]) ++ [93]) ?_ ?_ p
  ·funext p; rw [List.append_assoc]
  ·simp [q1o, q2z]
 rw [if_neg k6, if_neg k6]
 by_cases k7 : k = 7
 ·rw [if_pos k7, if_pos k7]
  refine Ap.eq (((Ap.put (toL name ++ [40])).comp (j6z h false)).comp (Ap.put [41])) (g := fun p => z9d fs false (p ++ toL name ++ [40]) ++ [41]) ?_ ?_ p
  ·funext p; rw [List.append_assoc]
  ·simp [q1o, q2z]
 rw [if_neg k7, if_neg k7]
 by_cases k8 : k = 8
 ·rw [if_pos k8, if_pos k8]
  rw [j5c]
  exact Ap.eq ((Ap.put (sgT op)).comp (z9z h.head _)) rfl rfl p
 rw [if_neg k8, if_neg k8]
 by_cases k9 : k = 9
 ·rw [if_pos k9, if_pos k9]
  dsimp only
  rw [j5d, j1b]
  generalize decide (q0v (args.headD (.mk 0 0 0 ⟨#[]⟩ [] 0 0 0)) < q5b (q0u 9 op)) = b1
  generalize decide (q0v (args.tail.headD (.mk 0 0 0 ⟨#[]⟩ [] 0 0 0)) < q0u 9 op + 1) = b2
  refine Ap.eq (((z9z h.head b1).comp (Ap.put ([32] ++ sgT op ++ [32]))).comp (z9z h.tail.head b2)) (g := fun p => q4k (fs.tail.headD id) b2 (q4k (fs.headD id) b1 p ++ [32] ++ sgT op ++ [32])) ?_ ?_ p
  ·funext p; simp
  ·simp [q1o, q2z]
 rw [if_neg k9, if_neg k9]
 exact Ap.id p
theorem j2p (l : List Ex) (h : ∀ e ∈ l, Ap (q0q e) (q2z (itE e))) : Aps (l.map q0q) (l.map itE) := by
 induction l with
 | nil => exact .nil
 | cons e l ih => exact .cons (h e List.mem_cons_self) (ih (fun x hx => h x (List.mem_cons_of_mem _ hx)))
theorem j5e (n : Nat) : ∀ e : Ex, SizeOf.sizeOf e <= n -> Ap (q0q e) (q2z (itE e)) := by
 induction n with
 | zero => intro e h; cases e; simp at h
 | succ n ih =>
  intro e h
  obtain ⟨k, op, num, name, args, a, t, pl⟩ := e
  simp only [Ex.mk.sizeOf_spec] at h
  have h1 : Ap (q5f k op num name args (args.map q0q)) (q2z (exI k op num name args (args.map itE))) := j7a (j2p args (fun x hx => ih x (by have := List.sizeOf_lt_of_mem hx; omega)))
  refine h1.cut.eq ?_ ?_
  ·funext p; exact q3n ..
  ·show q2z (exI k op num name args (x8m args)) = _; rw [z0f]
theorem j1c (l : List Ex) : Aps (l.map q0q) (l.map itE) := j2p l (fun e _ => j5e _ e (Nat.le_refl _))
inductive Apl : List (Nat -> List UInt8 -> List UInt8) -> List (Nat -> List It) -> Prop
 | nil : Apl [] []
 | cons {f l i j} : (∀ lv, Ap (f lv) (q2z (i lv))) -> Apl l j -> Apl (f :: l) (i :: j)
theorem j1d {l : List (Nat -> List UInt8 -> List UInt8)} {j : List (Nat -> List It)} (h : Apl l j) : ∀ lv, Ap (q5k lv l) (q2z (z9y lv j)) := by
 induction h with
 | nil => intro lv; exact Ap.id
 | @cons f l i j h1 h2 ih =>
  intro lv
  refine Ap.eq (Ap.cut ((((Ap.put (q2y lv)).comp (h1 lv)).comp (Ap.put [10])).comp (ih lv))) ?_ ?_
  ·funext p; rfl
  ·show q2z ((0, q2y lv) :: (i lv ++ (0, [10]) :: z9y lv j)) = _
   simp [q1o, q2z]
theorem z5u {l : List (Nat -> List UInt8 -> List UInt8)} {j : List (Nat -> List It)} (h : Apl l j) (lv : Nat) : Ap (q3w l lv) (q2z (z5t j lv)) := by
 refine Ap.eq (((Ap.put [32, 123, 10]).comp (j1d h (lv + 1))).comp (Ap.put (q2y lv ++ [125]))) ?_ ?_
 ·funext p; unfold q3w; rw [List.append_assoc]
 ·unfold z5t; simp [q1o, q2z]
theorem Apl.head {l : List (Nat -> List UInt8 -> List UInt8)} {j : List (Nat -> List It)} (h : Apl l j) (lv : Nat) : Ap (l.headD (fun _ p => p) lv) (q2z (j.headD (fun _ => []) lv)) := by
 cases h with
 | nil => exact Ap.id
 | cons h _ => exact h lv
theorem x7f {l : List (List UInt8 -> List UInt8)} {j : List (List It)} (h : Aps l j) : l = [] ↔ j = [] := by cases h <;> simp
theorem j7b {k : Int} {name : ByteArray} {type : Int} {es : List (List UInt8 -> List UInt8)} {je : List (List It)} {els : List St} {fb fl : List (Nat -> List UInt8 -> List UInt8)} {jb jl : List (Nat -> List It)} (he : Aps es je) (hb : Apl fb jb) (hl : Apl fl jl) (lv : Nat) :
  Ap (q8m k name type es els fb fl lv) (q2z (stI k name type je els jb jl lv)) := fun p => by
 unfold q8m stI
 split
 ·refine Ap.eq (((Ap.put ([108, 101, 116, 32] ++ toL name ++ [58, 32] ++ tyT type ++ [32, 61, 32])).comp he.head).comp (Ap.put [59])) (g := fun p => es.headD id (p ++ [108, 101, 116, 32] ++ toL name ++ [58, 32] ++ tyT type ++ [32, 61, 32]) ++ [59]) ?_ ?_ p
  ·funext p; simp
  ·simp [q1o, q2z]
 split
 ·refine Ap.eq (((Ap.put (toL name ++ [32, 61, 32])).comp he.head).comp (Ap.put [59])) (g := fun p => es.headD id (p ++ toL name ++ [32, 61, 32]) ++ [59]) ?_ ?_ p
  ·funext p; simp
  ·simp [q1o, q2z]
 split
 ·refine Ap.eq (((((Ap.put (toL name ++ [91])).comp he.head).comp (Ap.put [93, 32, 61, 32])).comp he.tail.head).comp (Ap.put [59])) (g := fun p => es.tail.headD id (es.headD id (p ++ toL name ++ [91]) ++ [93, 32, 61, 32]) ++ [59]) ?_ ?_ p
  ·funext p; simp
  ·simp [q1o, q2z]
 split
 ·have h1 := ((Ap.put [105, 102, 32]).comp he.head).comp (z5u hb lv)
  dsimp only
  split
  ·refine Ap.eq ((h1.comp (Ap.put [32, 101, 108, 115, 101, 32])).comp (hl.head lv)) (g := fun p => fl.headD (fun _ p => p) lv (q3w fb lv (es.headD id (p ++ [105, 102, 32])) ++ [32, 101, 108, 115, 101, 32])) ?_ ?_ p
   ·funext p; rfl
   ·simp [q1o, q2z]
  split
  ·refine Ap.eq ((h1.comp (Ap.put [32, 101, 108, 115, 101])).comp (z5u hl lv)) (g := fun p => q3w fl lv (q3w fb lv (es.headD id (p ++ [105, 102, 32])) ++ [32, 101, 108, 115, 101])) ?_ ?_ p
   ·funext p; rfl
   ·simp [q1o, q2z]
  ·refine Ap.eq h1 (g := fun p => q3w fb lv (es.headD id (p ++ [105, 102, 32]))) ?_ ?_ p
   ·funext p; rfl
   ·simp [q1o, q2z]
 split
 ·refine Ap.eq (((Ap.put [119, 104, 105, 108, 101, 32]).comp he.head).comp (z5u hb lv)) (g := fun p => q3w fb lv (es.headD id (p ++ [119, 104, 105, 108, 101, 32]))) ?_ ?_ p
  ·funext p; rfl
  ·simp [q1o, q2z]
 split
 ·by_cases hn : es = []
  ·rw [if_pos ((x7f he).1 hn)]
   simp only [if_pos hn]
   exact (Ap.put ([114, 101, 116, 117, 114, 110] ++ [59])).eq (g := fun p => p ++ [114, 101, 116, 117, 114, 110] ++ [59]) (by funext p; rw [List.append_assoc]) (by simp [q2z]) p
  ·rw [if_neg (fun q => hn ((x7f he).2 q))]
   simp only [if_neg hn]
   refine Ap.eq (((Ap.put ([114, 101, 116, 117, 114, 110] ++ [32])).comp he.head).comp (Ap.put [59])) (g := fun p => es.headD id (p ++ [114, 101, 116, 117, 114, 110] ++ [32]) ++ [59]) ?_ ?_ p
   ·funext p; simp
   ·simp [q1o, q2z]
 split
 ·exact (he.head.comp (Ap.put [59])).eq rfl (by simp [q1o, q2z]) p
 ·exact (Ap.put [59]).eq rfl (by simp [q2z]) p
theorem x7g (l : List St) (h : ∀ s ∈ l, ∀ lv, Ap (q1f s lv) (q2z (itS s lv))) : Apl (l.map q1f) (l.map itS) := by
 induction l with
 | nil => exact .nil
 | cons e l ih => exact .cons (h e List.mem_cons_self) (ih (fun x hx => h x (List.mem_cons_of_mem _ hx)))
theorem j5f (n : Nat) : ∀ s : St, SizeOf.sizeOf s <= n -> ∀ lv, Ap (q1f s lv) (q2z (itS s lv)) := by
 induction n with
 | zero => intro e h; cases e; simp at h
 | succ n ih =>
  intro s h lv
  obtain ⟨k, name, type, exprs, body, els, a, pl⟩ := s
  simp only [St.mk.sizeOf_spec] at h
  have h1 : Ap (q8m k name type (exprs.map q0q) els (body.map q1f) (els.map q1f) lv) (q2z (stI k name type (exprs.map itE) els (body.map itS) (els.map itS) lv)) :=
   j7b (j1c exprs) (x7g body (fun x hx => ih x (by have := List.sizeOf_lt_of_mem hx; omega))) (x7g els (fun x hx => ih x (by have := List.sizeOf_lt_of_mem hx; omega))) lv
  refine h1.eq ?_ ?_
  ·funext p; exact q4i ..
  ·show q2z (stI k name type (x8m exprs) els (z0g body) (z0g els) lv) = _; rw [z0f, z0h, z0h]
theorem j1e (l : List St) : Apl (l.map q1f) (l.map itS) := x7g l (fun e _ => j5f _ e (Nat.le_refl _))
theorem x1q (n : Int) : Lib.itoa n = (if n < 0 then [45] else []) ++ Lib.decDigits n.natAbs := by
 unfold Lib.itoa
 split
 ·rfl
 ·rename_i h
  rw [show n.toNat = n.natAbs by omega]; rfl
theorem j1f (n : Int) : q4o n = (if n < 0 then [45] else []) ++ q4o n.natAbs := by
 unfold q4o
 rw [if_neg (show ¬ ((n.natAbs : Nat) : Int) < 0 by omega), Int.natAbs_natCast, List.nil_append]
 simp only [List.append_assoc]
theorem j7c (v : Vr) (h : q6x v = true) : Ap (z0n v) (q2z (vrI v)) := by
 refine Ap.eq (Ap.put (q2z (vrI v))) ?_ rfl
 funext p
 unfold z0n vrI vlI
 simp only [x7e, q1o, List.cons_append, List.append_assoc, List.append_cancel_left_eq, List.nil_append]
 by_cases h0 : v.value = 0
 ·simp only [if_pos h0]
  split <;> simp [q2z]
 ·simp only [if_neg h0]
  by_cases h1 : v.type = 1
  ·simp only [if_pos h1, if_pos (Or.inl h1 : v.type = 1 \/ v.type = 2)]
   rw [x1q v.value]
   split <;> split <;> simp [q2z]
  ·by_cases h2 : v.type = 2
   ·simp only [if_pos h2, if_neg h1, if_pos (Or.inr h2 : v.type = 1 \/ v.type = 2)]
    rw [j1f v.value]
    split <;> split <;> simp [q2z]
   ·simp only [if_neg h2, if_neg h1, if_neg (show ¬ (v.type = 1 \/ v.type = 2) from fun q => q.elim h1 h2)]
    split <;> simp [q2z]
theorem z7v : ∀ (l : List Pm) (b : Bool), Ap (q2e l b) (q2z (pmI l b))
 | [], b => Ap.id
 | x :: l, b => by
  have ih := z7v l true
  cases b with
  | false =>
   refine Ap.eq ((Ap.put (toL x.name ++ [58, 32] ++ tyT x.type)).comp ih) ?_ ?_
   ·funext p; show q2e l true (p ++ toL x.name ++ [58, 32] ++ tyT x.type) = _; simp
   ·show q2z ([] ++ (1, toL x.name) :: (5, [58]) :: (0, [32]) :: (2, tyT x.type) :: pmI l true) = _; simp [q2z]
  | true =>
   refine Ap.eq ((Ap.put ([44, 32] ++ toL x.name ++ [58, 32] ++ tyT x.type)).comp ih) ?_ ?_
   ·funext p; show q2e l true (p ++ [44, 32] ++ toL x.name ++ [58, 32] ++ tyT x.type) = _; simp
   ·show q2z ([(5, [44]), (0, [32])] ++ (1, toL x.name) :: (5, [58]) :: (0, [32]) :: (2, tyT x.type) :: pmI l true) = _; simp [q2z]
theorem j5g (f : Fc) : Ap (q6i f) (q2z (fcI f)) := by
 have h1 := ((Ap.put ([102, 110, 32] ++ toL f.name ++ [40])).comp (z7v f.params false)).comp (Ap.put ([41] ++ (if f.type = 0 then [] else [58, 32] ++ tyT f.type)))
 refine Ap.eq ((h1.comp (z5u (j1e f.body) 0)).comp (Ap.put [10])) ?_ ?_
 ·funext p
  unfold q6i
  rw [q4r]
  split <;> simp
 ·unfold fcI
  rw [z0h]
  split <;> simp [q1o, q2z]
theorem x7h : ∀ l : List Vr, l.all q6x = true -> Ap (fun p => l.foldl (fun p v => z0n v p) p) (q2z (l.map vrI).flatten)
 | [], _ => Ap.id
 | v :: l, h => by
  rw [List.all_cons, Bool.and_eq_true] at h
  exact ((j7c v h.1).comp (x7h l h.2)).eq rfl (by rw [List.map_cons, List.flatten_cons, q1o])
theorem x1r : ∀ l : List Fc, Ap (q5w l) (q2z (l.map fcI).flatten)
 | [] => Ap.id
 | f :: l => ((j5g f).comp (x1r l)).cut.eq (by funext p; rfl) (by rw [List.map_cons, List.flatten_cons, q1o])
theorem j1g (m : Md) (h : m.vars.all q6x = true) (hw : q1w (q5l m) = false) : q5l m = q2z (mdI m) := by
 obtain ⟨r, h1, h2⟩ := ((x7h m.vars h).comp (x1r m.funcs)) []
 have e : q5l m = r := by rw [<- List.nil_append r, <- h1]; rfl
 rw [e, h2 hw]
 unfold mdI; rw [q1o]
def foB (c : UInt8) : Bool := !q0s c.toNat && c != 46
def sg1 : List UInt8 := [43, 45, 42, 47, 37, 40, 41, 123, 125, 91, 93, 44, 59, 58]
def sg3 : List UInt8 := [61, 33, 60, 62]
def sg2 : List (List UInt8) := [[61, 61], [33, 61], [60, 61], [62, 61], [38, 38], [124, 124]]
def x7i : List (List UInt8) := [[98, 111, 111, 108], [101, 108, 115, 101], [101, 110, 116], [102, 97, 108, 115, 101], [102, 105, 120], [102, 110], [105, 102], [105, 110, 116], [108, 101, 116], [110, 117, 108, 108], [114, 101, 116, 117, 114, 110], [116, 114, 117, 101], [118, 97, 114], [119, 104, 105, 108, 101]]
inductive OkI : It -> UInt8 -> Prop
 | blank {l c} : (∀ b ∈ l, b = 9 \/ b = 10 \/ b = 32) -> OkI (0, l) c
 | name {s : ByteArray} {c} : q1p s = true -> foB c = true -> OkI (1, toL s) c
 | word {l c} : l ∈ x7i -> foB c = true -> OkI (2, l) c
 | int {n : Nat} {c} : n < 9223372036854775808 -> foB c = true -> OkI (3, Lib.decDigits n) c
 | fix {n : Nat} {c} : n < 9223372036854775808 -> foB c = true -> OkI (4, q4o n) c
 | one {b c} : b ∈ sg1 -> OkI (5, [b]) c
 | three {b c} : b ∈ sg3 -> c ≠ 61 -> OkI (5, [b]) c
 | two {l c} : l ∈ sg2 -> OkI (5, l) c
def hdI (l : List It) (c : UInt8) : UInt8 := (q2z l).headD c
def Wf : List It -> UInt8 -> Prop
 | [], _ => True
 | x :: l, c => OkI x (hdI l c) /\ Wf l c
theorem z3i (a b : List It) (c : UInt8) : hdI (a ++ b) c = hdI a (hdI b c) := by
 unfold hdI
 rw [q1o]
 cases q2z a <;> rfl
theorem q2s (a b : List It) (c : UInt8) : Wf (a ++ b) c ↔ Wf a (hdI b c) /\ Wf b c := by
 induction a with
 | nil => exact ⟨fun h => ⟨trivial, h⟩, fun h => h.2⟩
 | cons x a ih =>
  show OkI x (hdI (a ++ b) c) /\ Wf (a ++ b) c ↔ (OkI x (hdI a (hdI b c)) /\ Wf a (hdI b c)) /\ Wf b c
  rw [ih, z3i, and_assoc]
theorem z0i (p : Int -> Bool) (w b : List UInt8) (hw : ∀ c ∈ w, p c.toNat = true) (hb : b = [] \/ p (b.headD 0).toNat = false) : q2a p (w ++ b) = w.length := by
 induction w with
 | nil =>
  cases b with
  | nil => rfl
  | cons c b =>
   rcases hb with hb | hb
   ·cases hb
   ·show (if p c.toNat then _ else 0) = 0
    have : p c.toNat = false := hb
    rw [this]; rfl
 | cons c w ih =>
  show (if p c.toNat then q2a p (w ++ b) + 1 else 0) = _
  rw [hw c List.mem_cons_self, if_pos rfl, ih (fun x hx => hw x (List.mem_cons_of_mem _ hx))]; rfl
theorem x7j {b : List UInt8} (h : foB (b.headD 0) = true) : b = [] \/ q0s (b.headD 0).toNat = false := by
 unfold foB at h
 rw [Bool.and_eq_true, Bool.not_eq_true'] at h
 exact .inr h.1
theorem x1s {b : List UInt8} (h : foB (b.headD 0) = true) : b = [] \/ q0k (b.headD 0).toNat = false := by
 unfold foB at h
 rw [Bool.and_eq_true, Bool.not_eq_true'] at h
 have h1 := h.1
 unfold q0s at h1
 rw [Bool.or_eq_false_iff] at h1
 exact .inr h1.2
theorem j8k {b : List UInt8} (h : foB (b.headD 0) = true) : b.getD 0 0 ≠ 46 := by
 unfold foB at h
 rw [Bool.and_eq_true, bne_iff_ne] at h
 cases b with
 | nil => decide
 | cons c b => exact h.2
theorem j7d {c : UInt8} (h : 48 <= c.toNat /\ c.toNat <= 57) : q0k c.toNat = true := by
 unfold q0k; rw [decide_eq_true_eq]; omega
theorem j2q (c : UInt8) (h : q0k c.toNat = true) : q1g c.toNat = false := by
 unfold q0k at h
 rw [decide_eq_true_eq] at h
 unfold q1g
 rw [Bool.or_eq_false_iff, decide_eq_false_iff_not, beq_eq_false_iff_ne]
 omega
theorem z2h (w b : List UInt8) : (w ++ b).take w.length = w := by simp
theorem j1h {k : Int} {w b : List UInt8} (h : OkI (k, w) (b.headD 0)) (hk : k ≠ 0) : q1b fxB (w ++ b) = (w.length, k) /\ w ≠ [] /\ (w.headD 0 ≠ 35 /\ w.headD 0 ≠ 9 /\ w.headD 0 ≠ 10 /\ w.headD 0 ≠ 13 /\ w.headD 0 ≠ 32) := by
 cases h with
 | blank _ => exact absurd rfl hk
 | @name s _ hn hc =>
  unfold q1p at hn
  simp only [Bool.and_eq_true, decide_eq_true_eq, beq_iff_eq, Bool.not_eq_true'] at hn
  obtain ⟨⟨⟨⟨h1, h2⟩, h3⟩, h4⟩, h5⟩ := hn
  have hl : (toL s).length = s.size := Array.length_toList
  have hall := q9y q0s (toL s) (h4.trans hl.symm)
  have hrun := z0i q0s (toL s) b hall (x7j hc)
  cases hs : toL s with
  | nil => rw [hs] at hl; rw [<- hl] at h1; exact absurd h1 (by decide)
  | cons c r =>
   have hb : bt s 0 = c.toNat := by
    have e : (toL s)[0]'(by rw [hs]; simp) = c := by simp only [hs]; rfl
    rw [<- j2w s 0 h1, <- e]; rfl
   rw [hb] at h3
   rw [hs] at hrun hl
   have e1 : q1b fxB (c :: r ++ b) = if q1g c.toNat then (if 24 < q2a q0s (c :: r ++ b) then (0, 0) else if z4y ⟨((c :: r ++ b).take (q2a q0s (c :: r ++ b))).toArray⟩ then (q2a q0s (c :: r ++ b), 2) else (q2a q0s (c :: r ++ b), 1)) else _ := rfl
   rw [e1, if_pos h3, hrun, z2h, <- hs, if_neg (by rw [hs]; omega)]
   have e2 : (⟨(toL s).toArray⟩ : ByteArray) = s := by cases s; rfl
   rw [e2, h5]
   refine ⟨by simp, by rw [hs]; simp, ?_⟩
   rw [hs]
   show c ≠ 35 /\ c ≠ 9 /\ c ≠ 10 /\ c ≠ 13 /\ c ≠ 32
   refine ⟨?_, ?_, ?_, ?_, ?_⟩ <;> (rintro rfl; exact absurd h3 (by decide))
 | @word _ _ hw hc =>
  have key : ∀ w ∈ x7i, q1g (w.headD 0).toNat = true /\ (∀ c ∈ w, q0s c.toNat = true) /\ w.length <= 24 /\ w ≠ [] /\ z4y ⟨w.toArray⟩ = true := by
   intro w hw
   simp only [x7i, List.mem_cons, List.not_mem_nil, or_false] at hw
   rcases hw with rfl | rfl | rfl | rfl | rfl | rfl | rfl | rfl | rfl | rfl | rfl | rfl | rfl | rfl <;> exact ⟨by decide, by decide, by decide, by decide, by kernel_rfl⟩
  obtain ⟨h3, hall, h2, h1, h5⟩ := key w hw
  have hrun := z0i q0s w b hall (x7j hc)
  have hh : (w ++ b).headD 0 = w.headD 0 := by cases w with | nil => exact absurd rfl h1 | cons c w => rfl
  unfold q1b
  simp only [hh, hrun, z2h, h3, if_true, h5, if_neg (show ¬ 24 < w.length by omega), true_and]
  refine ⟨h1, ?_, ?_, ?_, ?_, ?_⟩ <;> (intro e; rw [e] at h3; exact absurd h3 (by decide))
 | @int n _ hn hc =>
  have d1 := z2f n
  have d2 := x1n n
  have hrun := z0i q0k (Lib.decDigits n) b (fun c hc => j7d (d1 c hc)) (x1s hc)
  have h46 := j8k hc
  have hd := z2e n
  have hh0 := x1o n
  have h0 : n = 0 -> Lib.decDigits n = [48] := by rintro rfl; rw [Lib.decDigits, dif_pos (by decide)]; rfl
  revert hd hrun d1 d2 hh0 h0
  generalize Lib.decDigits n = w
  intro d1 d2 hrun hd hh0 h0
  cases w with
  | nil => exact absurd rfl d2
  | cons c r =>
   have hdc := j7d (d1 c List.mem_cons_self)
   have e1 : q1b fxB (c :: r ++ b) = z6m fxB (c :: r ++ b) := by
    unfold q1b
    have e : (c :: r ++ b).headD 0 = c := rfl
    simp only [e, j2q c hdc, hdc, if_true, if_false, Bool.false_eq_true]
   have e2 : z6m fxB (c :: r ++ b) = q3v (c :: r ++ b) (c :: r).length := by
    unfold z6m
    simp only [hrun]
    rw [if_pos]
    right
    rw [List.getD_eq_getElem?_getD, List.getElem?_append_right (Nat.le_refl _), Nat.sub_self, <- List.getD_eq_getElem?_getD]
    exact h46
   rw [e1, e2]
   unfold q3v
   rw [z2h, hd, if_neg]
   ·refine ⟨rfl, by simp, ?_⟩
    show c ≠ 35 /\ c ≠ 9 /\ c ≠ 10 /\ c ≠ 13 /\ c ≠ 32
    refine ⟨?_, ?_, ?_, ?_, ?_⟩ <;> (rintro rfl; exact absurd hdc (by decide))
   ·rintro (q | ⟨q, q2⟩)
    ·omega
    ·by_cases hn0 : n = 0
     ·rw [h0 hn0] at q2; exact absurd q2 (by decide)
     ·exact hh0 (by omega) q
 | @fix n _ hn hc =>
  obtain ⟨hp, ws, ps, e0, w1, p1, w2, p2, w3, p3⟩ := z3h n hn
  have hfx : fxB (q4o n) = true := by unfold fxB; rw [hp]; rfl
  rw [e0] at hfx ⊢
  have hrun := z0i q0k ws (46 :: ps ++ b) (fun c hc => j7d (w3 c hc)) (.inr (by show q0k ((46 : UInt8).toNat : Int) = false; decide))
  have hrun2 := z0i q0k ps b (fun c hc => j7d (p3 c hc)) (x1s hc)
  cases ws with
  | nil => exact absurd rfl w1
  | cons c r =>
   have hdc := j7d (w3 c List.mem_cons_self)
   have e1 : q1b fxB (c :: r ++ 46 :: ps ++ b) = z6m fxB (c :: r ++ 46 :: ps ++ b) := by
    unfold q1b
    have e : (c :: r ++ 46 :: ps ++ b).headD 0 = c := rfl
    simp only [e, j2q c hdc, hdc, if_true, if_false, Bool.false_eq_true]
   have l2 := List.length_pos_iff.2 p1
   rw [e1]
   have ea : c :: r ++ 46 :: ps ++ b = c :: r ++ (46 :: (ps ++ b)) := by simp
   have eb : (c :: r ++ 46 :: (ps ++ b)).drop ((c :: r).length + 1) = ps ++ b := by
    rw [<- List.drop_drop, List.drop_left]; rfl
   have ec : (c :: r ++ 46 :: (ps ++ b)).take ((c :: r).length + 1 + ps.length) = c :: r ++ 46 :: ps := by
    rw [show (c :: r).length + 1 + ps.length = (c :: r ++ 46 :: ps).length by simp; omega, show c :: r ++ 46 :: (ps ++ b) = (c :: r ++ 46 :: ps) ++ b by simp, List.take_left]
   have ed : (c :: r ++ 46 :: (ps ++ b)).getD (c :: r).length 0 = 46 := by
    rw [List.getD_eq_getElem?_getD, List.getElem?_append_right (Nat.le_refl _), Nat.sub_self]; rfl
   rw [ea]
   have hrun' : q2a q0k (c :: r ++ 46 :: (ps ++ b)) = (c :: r).length := by rw [<- hrun]; rfl
   unfold z6m
   simp only [hrun', eb, hrun2, ec, ed]
   rw [if_neg, if_pos l2, if_pos hfx]
   ·refine ⟨by simp; omega, by simp, ?_⟩
    show c ≠ 35 /\ c ≠ 9 /\ c ≠ 10 /\ c ≠ 13 /\ c ≠ 32
    refine ⟨?_, ?_, ?_, ?_, ?_⟩ <;> (rintro rfl; exact absurd hdc (by decide))
   ·rintro (q | q)
    ·simp at q
    ·exact q rfl
 | @one a _ ha =>
  simp only [sg1, List.mem_cons, List.not_mem_nil, or_false] at ha
  rcases ha with rfl | rfl | rfl | rfl | rfl | rfl | rfl | rfl | rfl | rfl | rfl | rfl | rfl | rfl <;> exact ⟨rfl, by decide, by decide⟩
 | @three a _ ha hc =>
  have hc2 : ¬ (1 < (a :: b).length /\ (a :: b).getD 1 0 = 61) := by
   rintro ⟨_, q⟩
   cases b with
   | nil => exact absurd q (show ¬ (0 : UInt8) = 61 by decide)
   | cons x b => exact hc q
  have e : ∀ a : UInt8, a ∈ sg3 -> q1b fxB ([a] ++ b) = if 1 < (a :: b).length /\ (a :: b).getD 1 0 = 61 then (2, 5) else (1, 5) := by
   intro a ha
   simp only [sg3, List.mem_cons, List.not_mem_nil, or_false] at ha
   rcases ha with rfl | rfl | rfl | rfl
   all_goals
    unfold q1b
    simp [q1g, q0k]
  rw [e a ha, if_neg hc2]
  refine ⟨rfl, by simp, ?_⟩
  simp only [sg3, List.mem_cons, List.not_mem_nil, or_false] at ha
  rcases ha with rfl | rfl | rfl | rfl <;> decide
 | @two _ _ hw =>
  simp only [sg2, List.mem_cons, List.not_mem_nil, or_false] at hw
  rcases hw with rfl | rfl | rfl | rfl | rfl | rfl
  all_goals
   refine ⟨?_, by decide, by decide⟩
   unfold q1b
   simp [q1g, q0k]
def tkT (t : Tok) : It := (t.kind, toL t.text)
def j5t (l : List It) : List It := l.filter (fun x => x.1 != 0)
theorem x1t (l : List UInt8) : ∀ (w pre b : List UInt8) (k : Nat) (out : List Tok), (∀ c ∈ w, c = 9 \/ c = 10 \/ c = 32) -> l = pre ++ w ++ b -> w.length < k -> ∃ k', k <= k' + w.length /\ q7n fxB l k pre.length out = q7n fxB l k' (pre ++ w).length out
 | [], pre, b, k, out, _, _, _ => ⟨k, Nat.le_add_right _ _, by rw [List.append_nil]⟩
 | c :: w, pre, b, k, out, h, e, hk => by
  cases k with
  | zero => omega
  | succ k =>
   obtain ⟨k', h1, h2⟩ := x1t l w (pre ++ [c]) b k out (fun x hx => h x (List.mem_cons_of_mem _ hx)) (by rw [e]; simp) (by simp at hk ⊢; omega)
   refine ⟨k', by simp at h1 ⊢; omega, ?_⟩
   have e1 : q7n fxB l (k + 1) pre.length out = q7n fxB l k (pre.length + 1) out := by
    rw [q7n, if_pos (by rw [e]; simp)]
    have e2 : l.getD pre.length 0 = c := by rw [e, List.getD_eq_getElem?_getD, List.append_assoc, List.getElem?_append_right (Nat.le_refl _), Nat.sub_self]; rfl
    simp only [e2]
    rcases h c List.mem_cons_self with rfl | rfl | rfl <;> simp
   rw [e1]
   rw [List.length_append, List.length_singleton] at h2
   rw [h2]; simp
theorem z3j (l : List UInt8) : ∀ (its : List It) (pre : List UInt8) (k : Nat) (out : List Tok), Wf its 0 -> l = pre ++ q2z its -> (q2z its).length < k -> ∃ ts, q7n fxB l k pre.length out = some (.ok (out ++ ts ++ [⟨6, ⟨#[]⟩, l.length⟩])) /\ ts.map tkT = j5t its
 | [], pre, k, out, _, e, hk => by
  cases k with
  | zero => omega
  | succ k =>
   have e2 : l = pre := by rw [e]; exact List.append_nil _
   refine ⟨[], ?_, rfl⟩
   rw [q7n, if_neg (by rw [e2]; omega)]; simp
 | (x, w) :: its, pre, k, out, hw, e, hk => by
  have hlen : (q2z ((x, w) :: its)).length = w.length + (q2z its).length := by show (w ++ q2z its).length = _; rw [List.length_append]
  rw [hlen] at hk
  have e2 : l = pre ++ w ++ q2z its := by rw [e]; show pre ++ (w ++ q2z its) = _; rw [List.append_assoc]
  by_cases hx : x = 0
  ·subst hx
   have hb : ∀ c ∈ w, c = 9 \/ c = 10 \/ c = 32 := by
    have := hw.1
    cases this with
    | blank h => exact h
   obtain ⟨k', h1, h2⟩ := x1t l w pre (q2z its) k out hb e2 (by omega)
   obtain ⟨ts, h3, h4⟩ := z3j l its (pre ++ w) k' out hw.2 e2 (by omega)
   exact ⟨ts, h2.trans h3, h4⟩
  ·obtain ⟨p1, p2, p3⟩ := j1h hw.1 hx
   have hwl := List.length_pos_iff.2 p2
   cases k with
   | zero => omega
   | succ k =>
    obtain ⟨ts, h3, h4⟩ := z3j l its (pre ++ w) k (out ++ [⟨x, ⟨w.toArray⟩, pre.length⟩]) hw.2 e2 (by omega)
    refine ⟨⟨x, ⟨w.toArray⟩, pre.length⟩ :: ts, ?_, ?_⟩
    ·have e3 : q7n fxB l (k + 1) pre.length out = q7n fxB l k (pre ++ w).length (out ++ [⟨x, ⟨w.toArray⟩, pre.length⟩]) := by
      have hd : l.drop pre.length = w ++ q2z its := by rw [e2, List.append_assoc, List.drop_left]
      have hh : l.getD pre.length 0 = w.headD 0 := by
       rw [List.getD_eq_getElem?_getD, e2, List.append_assoc, List.getElem?_append_right (Nat.le_refl _), Nat.sub_self]
       cases w with
       | nil => exact absurd rfl p2
       | cons c w => rfl
      rw [q7n, if_pos (by rw [e2]; simp; omega)]
      simp only [hh, hd, p1, z2h]
      obtain ⟨q1, q2, q3, q4, q5⟩ := p3
      rw [if_neg q1, if_neg (by simp only [q2, q3, q4, q5, or_self, not_false_eq_true]), if_neg (by omega), List.length_append]
     rw [e3, h3]; simp
    ·have : (x != 0) = true := by simpa using hx
     show (x, w) :: ts.map tkT = List.filter _ ((x, w) :: its)
     rw [List.filter_cons, this, if_pos rfl, h4]; rfl
abbrev n0 : ByteArray := ⟨#[]⟩
inductive EOK (R : Prop) : Ex -> Prop
 | int {n : Nat} {a t p} : n < 9223372036854775808 -> (R -> t = 0 /\ p = 0) -> EOK R (.mk 1 0 n n0 [] a t p)
 | fix {n : Nat} {a t p} : n < 9223372036854775808 -> (R -> t = 0 /\ p = 0) -> EOK R (.mk 2 0 n n0 [] a t p)
 | bool {n : Int} {a t p} : n = 0 \/ n = 1 -> (R -> t = 0 /\ p = 0) -> EOK R (.mk 3 0 n n0 [] a t p)
 | null {a t p} : (R -> t = 0 /\ p = 0) -> EOK R (.mk 4 0 0 n0 [] a t p)
 | name {s a t p} : q1p s = true -> (R -> t = 0 /\ p = 0) -> EOK R (.mk 5 0 0 s [] a t p)
 | index {s x a t p} : q1p s = true -> EOK R x -> (R -> t = 0 /\ p = 0) -> EOK R (.mk 6 0 0 s [x] a t p)
 | call {s l a t p} : q1p s = true -> l.length <= 16384 -> (∀ x ∈ l, EOK R x) -> (R -> t = 0 /\ p = 0) -> EOK R (.mk 7 0 0 s l a t p)
 | one {o x a t p} : o = 14 \/ o = 15 -> EOK R x -> (R -> t = 0 /\ p = 0) -> EOK R (.mk 8 o 0 n0 [x] a t p)
 | both {o x y a t p} : 1 <= o -> o <= 13 -> EOK R x -> EOK R y -> (R -> t = 0 /\ p = 0) -> EOK R (.mk 9 o 0 n0 [x, y] a t p)
inductive SOK (R : Prop) : St -> Prop
 | lt {s ty e a p} : q1p s = true -> q1c ty = true -> EOK R e -> (R -> p = 0) -> SOK R (.mk 1 s ty [e] [] [] a p)
 | set {s e a p} : q1p s = true -> EOK R e -> (R -> p = 0) -> SOK R (.mk 2 s 0 [e] [] [] a p)
 | put {s i e a p} : q1p s = true -> EOK R i -> EOK R e -> (R -> p = 0) -> SOK R (.mk 3 s 0 [i, e] [] [] a p)
 | iff {e b l a p} : EOK R e -> b.length <= 400 -> l.length <= 400 -> (∀ s ∈ b, SOK R s) -> (∀ s ∈ l, SOK R s) -> (R -> p = 0) -> SOK R (.mk 4 n0 0 [e] b l a p)
 | whl {e b a p} : EOK R e -> b.length <= 400 -> (∀ s ∈ b, SOK R s) -> (R -> p = 0) -> SOK R (.mk 5 n0 0 [e] b [] a p)
 | ret0 {a p} : (R -> p = 0) -> SOK R (.mk 6 n0 0 [] [] [] a p)
 | ret {e a p} : EOK R e -> (R -> p = 0) -> SOK R (.mk 6 n0 0 [e] [] [] a p)
 | call {e a p} : e.kind = 7 -> EOK R e -> (R -> p = 0) -> SOK R (.mk 7 n0 0 [e] [] [] a p)
structure VOK (v : Vr) : Prop where
 ok : q6x v = true
 lo : -9223372036854775808 < v.value
 hi : v.value < 9223372036854775808
 b : v.type = 3 -> v.value = 0 \/ v.value = 1
structure FOK (R : Prop) (f : Fc) : Prop where
 nm : q1p f.name = true
 ty : f.type = 0 \/ q1c f.type = true
 pl : f.params.length <= 8
 ps : ∀ p ∈ f.params, q1p p.name = true /\ q1c p.type = true
 bl : f.body.length <= 400
 bs : ∀ s ∈ f.body, SOK R s
 lc : R -> f.locals = []
structure MOK (R : Prop) (m : Md) : Prop where
 vl : m.vars.length <= 64
 fl : m.funcs.length <= 64
 vs : ∀ v ∈ m.vars, VOK v
 fs : ∀ f ∈ m.funcs, FOK R f
theorem EOK.ok {R : Prop} {e : Ex} (h : EOK R e) : q0x e = true := by
 induction h with
 | int h _ => simp [q0x, q3s, q5e, q2f, z7i]; rfl
 | fix h _ => simp [q0x, q3s, q5e, q2f, z7i]; rfl
 | bool h _ => rcases h with rfl | rfl <;> rfl
 | null _ => rfl
 | name h _ => simp [q0x, q3s, q5e, q2f, z7i, h]
 | index h _ _ ih => simp [q0x, q3s, q5e, q2f, z7i, h, ih]
 | call h hl _ _ ih =>
  rw [q9w, List.all_eq_true.2 ih, Bool.and_true]
  simp only [q5e, q2f, z7i]
  simp [h]
  omega
 | one ho _ _ ih => rcases ho with rfl | rfl <;> (simp [q0x, q3s, q5e, q2f, z7i, ih]; rfl)
 | both h1 h2 _ _ _ i1 i2 => simp [q0x, q3s, q5e, q2f, z7i, i1, i2, h1, h2]; rfl
theorem SOK.ok {R : Prop} {s : St} (h : SOK R s) : q4n s = true := by
 induction h with
 | lt h1 h2 he _ => simp [q4n, q5v, q3s, q4h, q1u, h1, h2, he.ok]
 | set h1 he _ => simp [q4n, q5v, q3s, q4h, q1u, h1, he.ok]
 | put h1 hi he _ => simp [q4n, q5v, q3s, q4h, q1u, h1, he.ok, hi.ok]
 | iff he h1 h2 _ _ _ i1 i2 =>
  rw [q9x]
  unfold q0t
  rw [q3k, q3k, List.all_eq_true.2 i1, List.all_eq_true.2 i2]
  simp [q4h, q1u, he.ok, h1, h2]
  rfl
 | whl he h1 _ _ i1 =>
  rw [q9x]
  unfold q0t
  rw [q3k, q3k, List.all_eq_true.2 i1]
  simp [q4h, q1u, he.ok, h1]
  rfl
 | ret0 _ => rfl
 | ret he _ => simp [q4n, q5v, q3s, q4h, q1u, he.ok]; rfl
 | call hk he _ => simp [q4n, q5v, q3s, q4h, q1u, he.ok, hk]; rfl
theorem SOK.all {R : Prop} {l : List St} (h : ∀ x ∈ l, SOK R x) (hl : l.length <= 400) : q0t l = true := by
 unfold q0t
 rw [q3k, List.all_eq_true.2 (fun x hx => (h x hx).ok)]
 simp [hl]
theorem MOK.ok {R : Prop} {m : Md} (h : MOK R m) : q8l m = true := by
 unfold q8l
 rw [List.all_eq_true.2 (fun v hv => (h.vs v hv).ok), List.all_eq_true.2 (fun f hf => ?_)]
 ·simp [h.vl, h.fl]
 ·have k := h.fs f hf
  unfold q6q
  rw [List.all_eq_true.2 (fun p hp => by rw [(k.ps p hp).1, (k.ps p hp).2]; rfl), SOK.all k.bs k.bl, k.nm]
  rcases k.ty with ht | ht <;> simp [ht, k.pl]
structure GE (l : List It) : Prop where
 wf : ∀ c, foB c = true -> Wf l c
 hd : ∀ c, hdI l c ≠ 61
 hn : ∀ c, hdI l c = hdI l 0
theorem x3o {s : ByteArray} (h : q1p s = true) (k : Int) (l : List It) (c : UInt8) : hdI ((k, toL s) :: l) c ≠ 61 /\ hdI ((k, toL s) :: l) c = hdI ((k, toL s) :: l) 0 := by
 have h1 := x5z s h
 unfold q1p at h
 simp only [Bool.and_eq_true, decide_eq_true_eq, beq_iff_eq, Bool.not_eq_true'] at h
 obtain ⟨⟨⟨⟨h1, h2⟩, h3⟩, h4⟩, h5⟩ := h
 have hl : (toL s).length = s.size := Array.length_toList
 have hall := q9y q0s (toL s) (h4.trans hl.symm)
 cases hs : toL s with
 | nil => rw [hs] at hl; rw [<- hl] at h1; exact absurd h1 (by decide)
 | cons b w =>
  rw [hs] at hall
  have := hall b List.mem_cons_self
  refine ⟨?_, rfl⟩
  show b ≠ 61
  rintro rfl
  exact absurd this (by decide)
theorem j2r (n : Nat) (k : Int) (w : List UInt8) (l : List It) (c : UInt8) : hdI ((k, Lib.decDigits n ++ w) :: l) c ≠ 61 /\ hdI ((k, Lib.decDigits n ++ w) :: l) c = hdI ((k, Lib.decDigits n ++ w) :: l) 0 := by
 have d1 := z2f n
 have d2 := x1n n
 revert d1 d2
 generalize Lib.decDigits n = d
 intro d1 d2
 cases d with
 | nil => exact absurd rfl d2
 | cons b d =>
  have := d1 b List.mem_cons_self
  refine ⟨?_, rfl⟩
  show b ≠ 61
  rintro rfl
  exact absurd this (by decide)
theorem GE.par {l : List It} (h : GE l) (b : Bool) : GE (j0z b l) := by
 cases b with
 | false => exact h
 | true =>
  refine ⟨fun c hc => ?_, fun c => (by show (40 : UInt8) ≠ 61; decide), fun c => rfl⟩
  show Wf ((5, [40]) :: (l ++ [(5, [41])])) c
  refine ⟨.one (by decide), ?_⟩
  rw [q2s]
  exact ⟨h.wf _ rfl, .one (by decide), trivial⟩
theorem j8l (o : Int) (h1 : 1 <= o) (h2 : o <= 13) (c : UInt8) (hc : c ≠ 61) : OkI (5, sgT o) c := by
 have h : ∀ k : Nat, k < 14 -> 1 <= k -> sgT k ∈ sg2 \/ ∃ b, sgT k = [b] /\ (b ∈ sg1 \/ b ∈ sg3) := by
  intro k hk h1
  have : k = 1 \/ k = 2 \/ k = 3 \/ k = 4 \/ k = 5 \/ k = 6 \/ k = 7 \/ k = 8 \/ k = 9 \/ k = 10 \/ k = 11 \/ k = 12 \/ k = 13 := by omega
  rcases this with rfl | rfl | rfl | rfl | rfl | rfl | rfl | rfl | rfl | rfl | rfl | rfl | rfl
  all_goals first | exact .inl (by decide) | exact .inr ⟨_, rfl, by decide⟩
 rcases h o.toNat (by omega) (by omega) with hs | ⟨b, hs, hb | hb⟩
 ·rw [show sgT o = sgT (o.toNat : Int) from by rw [Int.toNat_of_nonneg (by omega)]]; exact .two hs
 ·rw [show sgT o = sgT (o.toNat : Int) from by rw [Int.toNat_of_nonneg (by omega)], hs]; exact .one hb
 ·rw [show sgT o = sgT (o.toNat : Int) from by rw [Int.toNat_of_nonneg (by omega)], hs]; exact .three hb hc
theorem z2i (n : Nat) : Lib.itoa (n : Int) = Lib.decDigits n := by
 rw [x1q, if_neg (by omega), Int.natAbs_natCast]; rfl
theorem j7e (l : List (List It)) (h : ∀ x ∈ l, GE x) (c : UInt8) (hc : foB c = true) : (∀ b, Wf (z8i l b) c) /\ foB (hdI (z8i l true) c) = true := by
 induction l with
 | nil => exact ⟨fun b => trivial, hc⟩
 | cons x l ih =>
  obtain ⟨i1, i2⟩ := ih (fun y hy => h y (List.mem_cons_of_mem _ hy))
  have hx := h x List.mem_cons_self
  refine ⟨fun b => ?_, rfl⟩
  show Wf ((if b then [(5, [44]), (0, [32])] else []) ++ x ++ z8i l true) c
  rw [q2s, q2s]
  refine ⟨⟨?_, hx.wf _ i2⟩, i1 true⟩
  cases b with
  | false => exact trivial
  | true => exact ⟨.one (by decide), .blank (by decide), trivial⟩
theorem wfE {R : Prop} {e : Ex} (h : EOK R e) : GE (itE e) := by
 induction h with
 | @int n a t p h _ =>
  show GE [(3, Lib.itoa n)]
  rw [z2i]
  have := j2r n 3 [] []
  rw [List.append_nil] at this
  exact ⟨fun c hc => ⟨.int h hc, trivial⟩, fun c => (this c).1, fun c => (this c).2⟩
 | @fix n a t p h _ =>
  show GE [(4, q4o n)]
  have e0 : q4o n = Lib.decDigits (n / 4294967296) ++ 46 :: q3m 40 (n % 4294967296) := by
   unfold q4o
   rw [if_neg (by omega)]
   simp
  have := j2r (n / 4294967296) 4 (46 :: q3m 40 (n % 4294967296)) []
  rw [<- e0] at this
  exact ⟨fun c hc => ⟨.fix h hc, trivial⟩, fun c => (this c).1, fun c => (this c).2⟩
 | @bool n a t p h _ =>
  rcases h with rfl | rfl
  ·exact ⟨fun c hc => ⟨.word (by decide) hc, trivial⟩, fun c => (by show (102 : UInt8) ≠ 61; decide), fun c => rfl⟩
  ·exact ⟨fun c hc => ⟨.word (by decide) hc, trivial⟩, fun c => (by show (116 : UInt8) ≠ 61; decide), fun c => rfl⟩
 | null _ => exact ⟨fun c hc => ⟨.word (by decide) hc, trivial⟩, fun c => (by show (110 : UInt8) ≠ 61; decide), fun c => rfl⟩
 | @name s a t p h _ => exact ⟨fun c hc => ⟨.name h hc, trivial⟩, fun c => (x3o h 1 [] c).1, fun c => (x3o h 1 [] c).2⟩
 | @index s x a t p h _ _ ih =>
  refine ⟨fun c hc => ?_, fun c => (x3o h 1 _ c).1, fun c => (x3o h 1 _ c).2⟩
  show Wf ((1, toL s) :: (5, [91]) :: (itE x ++ [(5, [93])])) c
  refine ⟨.name h rfl, .one (by decide), ?_⟩
  rw [q2s]
  exact ⟨ih.wf _ rfl, .one (by decide), trivial⟩
 | @call s l a t p h _ _ _ ih =>
  refine ⟨fun c hc => ?_, fun c => (x3o h 1 _ c).1, fun c => (x3o h 1 _ c).2⟩
  show Wf ((1, toL s) :: (5, [40]) :: (z8i (x8m l) false ++ [(5, [41])])) c
  refine ⟨.name h rfl, .one (by decide), ?_⟩
  rw [q2s, z0f]
  refine ⟨(j7e _ (fun x hx => ?_) _ rfl).1 false, .one (by decide), trivial⟩
  obtain ⟨y, hy, rfl⟩ := List.mem_map.1 hx
  exact ih y hy
 | @one o x a t p ho _ _ ih =>
  have hp := ih.par (decide (q0v x < 6))
  rcases ho with rfl | rfl
  ·exact ⟨fun c hc => ⟨.one (by decide), hp.wf c hc⟩, fun c => (by show (45 : UInt8) ≠ 61; decide), fun c => rfl⟩
  ·exact ⟨fun c hc => ⟨.three (by decide) (hp.hd c), hp.wf c hc⟩, fun c => (by show (33 : UInt8) ≠ 61; decide), fun c => rfl⟩
 | @both o x y a t p h1 h2 _ _ _ ix iy =>
  have hx := ix.par (decide (q0v x < q5b (q0u 9 o)))
  have hy := iy.par (decide (q0v y < q0u 9 o + 1))
  have e : itE (.mk 9 o 0 n0 [x, y] a t p) = j0z (decide (q0v x < q5b (q0u 9 o))) (itE x) ++ (0, [32]) :: (5, sgT o) :: (0, [32]) :: j0z (decide (q0v y < q0u 9 o + 1)) (itE y) := rfl
  rw [e]
  refine ⟨fun c hc => ?_, fun c => ?_, fun c => ?_⟩
  ·rw [q2s]
   exact ⟨hx.wf _ rfl, .blank (by decide), j8l o h1 h2 _ (by show (32 : UInt8) ≠ 61; decide), .blank (by decide), hy.wf c hc⟩
  ·rw [z3i]; exact hx.hd _
  ·rw [z3i, z3i]; exact (hx.hn _).trans (hx.hn _).symm
theorem x7k (lv : Nat) (c : UInt8) : OkI (0, q2y lv) c := .blank (fun b hb => .inl (List.eq_of_mem_replicate hb))
theorem j1i {t : Int} (h : q1c t = true) {c : UInt8} (hc : foB c = true) : OkI (2, tyT t) c := by
 unfold q1c at h
 rw [decide_eq_true_eq] at h
 have : t = 1 \/ t = 2 \/ t = 3 \/ t = 4 := by omega
 rcases this with rfl | rfl | rfl | rfl <;> exact .word (by decide) hc
theorem j7f (l : List (Nat -> List It)) (h : ∀ f ∈ l, ∀ lv c, Wf (f lv) c) (lv : Nat) (c : UInt8) : Wf (z9y lv l) c := by
 induction l with
 | nil => exact trivial
 | cons f l ih =>
  show Wf ((0, q2y lv) :: (f lv ++ (0, [10]) :: z9y lv l)) c
  refine ⟨x7k _ _, ?_⟩
  rw [q2s]
  exact ⟨h f List.mem_cons_self _ _, .blank (by decide), ih (fun x hx => h x (List.mem_cons_of_mem _ hx))⟩
theorem x1u (l : List (Nat -> List It)) (h : ∀ f ∈ l, ∀ lv c, Wf (f lv) c) (lv : Nat) (c : UInt8) : Wf (z5t l lv) c := by
 show Wf ((0, [32]) :: (5, [123]) :: (0, [10]) :: (z9y (lv + 1) l ++ [(0, q2y lv), (5, [125])])) c
 refine ⟨.blank (by decide), .one (by decide), .blank (by decide), ?_⟩
 rw [q2s]
 exact ⟨j7f l h _ _, x7k _ _, .one (by decide), trivial⟩
theorem x1v {l : List St} (h : ∀ s ∈ l, ∀ lv c, Wf (itS s lv) c) : ∀ f ∈ z0g l, ∀ lv c, Wf (f lv) c := by
 rw [z0h]
 intro f hf
 obtain ⟨s, hs, rfl⟩ := List.mem_map.1 hf
 exact h s hs
theorem wfS {R : Prop} {s : St} (h : SOK R s) : ∀ lv c, Wf (itS s lv) c := by
 induction h with
 | @lt s ty e a p h1 h2 he _ =>
  intro lv c
  show Wf ((2, [108, 101, 116]) :: (0, [32]) :: (1, toL s) :: (5, [58]) :: (0, [32]) :: (2, tyT ty) :: (0, [32]) :: (5, [61]) :: (0, [32]) :: (itE e ++ [(5, [59])])) c
  refine ⟨.word (by decide) rfl, .blank (by decide), .name h1 rfl, .one (by decide), .blank (by decide), j1i h2 rfl, .blank (by decide), .three (by decide) (by show (32 : UInt8) ≠ 61; decide), .blank (by decide), ?_⟩
  rw [q2s]
  exact ⟨(wfE he).wf _ rfl, .one (by decide), trivial⟩
 | @set s e a p h1 he _ =>
  intro lv c
  show Wf ((1, toL s) :: (0, [32]) :: (5, [61]) :: (0, [32]) :: (itE e ++ [(5, [59])])) c
  refine ⟨.name h1 rfl, .blank (by decide), .three (by decide) (by show (32 : UInt8) ≠ 61; decide), .blank (by decide), ?_⟩
  rw [q2s]
  exact ⟨(wfE he).wf _ rfl, .one (by decide), trivial⟩
 | @put s i e a p h1 hi he _ =>
  intro lv c
  show Wf ((1, toL s) :: (5, [91]) :: (itE i ++ (5, [93]) :: (0, [32]) :: (5, [61]) :: (0, [32]) :: (itE e ++ [(5, [59])]))) c
  refine ⟨.name h1 rfl, .one (by decide), ?_⟩
  rw [q2s]
  refine ⟨(wfE hi).wf _ rfl, .one (by decide), .blank (by decide), .three (by decide) (by show (32 : UInt8) ≠ 61; decide), .blank (by decide), ?_⟩
  rw [q2s]
  exact ⟨(wfE he).wf _ rfl, .one (by decide), trivial⟩
 | @iff e b l a p he _ _ _ _ _ ib il =>
  intro lv c
  show Wf (((2, [105, 102]) :: (0, [32]) :: (itE e ++ z5t (z0g b) lv)) ++ (if l.length = 1 /\ (l.headD (.mk 0 ⟨#[]⟩ 0 [] [] [] 0 0)).kind = 4 then (0, [32]) :: (2, [101, 108, 115, 101]) :: (0, [32]) :: (z0g l).headD (fun _ => []) lv else if 0 < l.length then (0, [32]) :: (2, [101, 108, 115, 101]) :: z5t (z0g l) lv else [])) c
  rw [q2s]
  refine ⟨⟨.word (by decide) rfl, .blank (by decide), ?_⟩, ?_⟩
  ·show Wf (itE e ++ z5t (z0g b) lv) _
   rw [q2s]
   exact ⟨(wfE he).wf _ rfl, x1u _ (x1v ib) _ _⟩
  ·split
   ·refine ⟨.blank (by decide), .word (by decide) rfl, .blank (by decide), ?_⟩
    rename_i hc
    cases l with
    | nil => exact absurd hc.1 (by decide)
    | cons s l => exact il s List.mem_cons_self lv c
   ·split
    ·exact ⟨.blank (by decide), .word (by decide) rfl, x1u _ (x1v il) _ _⟩
    ·exact trivial
 | @whl e b a p he _ _ _ ib =>
  intro lv c
  show Wf ((2, [119, 104, 105, 108, 101]) :: (0, [32]) :: (itE e ++ z5t (z0g b) lv)) c
  refine ⟨.word (by decide) rfl, .blank (by decide), ?_⟩
  rw [q2s]
  exact ⟨(wfE he).wf _ rfl, x1u _ (x1v ib) _ _⟩
 | ret0 _ => exact fun lv c => ⟨.word (by decide) rfl, .one (by decide), trivial⟩
 | @ret e a p he _ =>
  intro lv c
  show Wf ((2, [114, 101, 116, 117, 114, 110]) :: (0, [32]) :: (itE e ++ [(5, [59])])) c
  refine ⟨.word (by decide) rfl, .blank (by decide), ?_⟩
  rw [q2s]
  exact ⟨(wfE he).wf _ rfl, .one (by decide), trivial⟩
 | @call e a p _ he _ =>
  intro lv c
  show Wf (itE e ++ [(5, [59])]) c
  rw [q2s]
  exact ⟨(wfE he).wf _ rfl, .one (by decide), trivial⟩
theorem j7g : ∀ (l : List Pm), (∀ p ∈ l, q1p p.name = true /\ q1c p.type = true) -> ∀ c, foB c = true -> (∀ b, Wf (pmI l b) c) /\ foB (hdI (pmI l true) c) = true
 | [], _, c, hc => ⟨fun b => trivial, hc⟩
 | x :: l, h, c, hc => by
  obtain ⟨i1, i2⟩ := j7g l (fun y hy => h y (List.mem_cons_of_mem _ hy)) c hc
  have hx := h x List.mem_cons_self
  refine ⟨fun b => ?_, rfl⟩
  have key : Wf ((1, toL x.name) :: (5, [58]) :: (0, [32]) :: (2, tyT x.type) :: pmI l true) c := ⟨.name hx.1 rfl, .one (by decide), .blank (by decide), j1i hx.2 i2, i1 true⟩
  show Wf ((if b then [(5, [44]), (0, [32])] else []) ++ (1, toL x.name) :: (5, [58]) :: (0, [32]) :: (2, tyT x.type) :: pmI l true) c
  rw [q2s]
  refine ⟨?_, key⟩
  cases b with
  | false => exact trivial
  | true => exact ⟨.one (by decide), .blank (by decide), trivial⟩
theorem j8m {R : Prop} {f : Fc} (h : FOK R f) (c : UInt8) : Wf (fcI f) c := by
 show Wf ((2, [102, 110]) :: (0, [32]) :: (1, toL f.name) :: (5, [40]) :: (pmI f.params false ++ (5, [41]) :: ((if f.type = 0 then [] else [(5, [58]), (0, [32]), (2, tyT f.type)]) ++ z5t (z0g f.body) 0 ++ [(0, [10])]))) c
 refine ⟨.word (by decide) rfl, .blank (by decide), .name h.nm rfl, .one (by decide), ?_⟩
 rw [q2s]
 refine ⟨(j7g _ h.ps _ rfl).1 false, .one (by decide), ?_⟩
 rw [q2s, q2s]
 refine ⟨⟨?_, x1u _ (x1v (fun s hs => wfS (h.bs s hs))) _ _⟩, .blank (by decide), trivial⟩
 by_cases h0 : f.type = 0
 ·rw [if_pos h0]; exact trivial
 ·rw [if_neg h0]
  exact ⟨.one (by decide), .blank (by decide), j1i (h.ty.resolve_left h0) rfl, trivial⟩
theorem VOK.facts {v : Vr} (h : VOK v) : q1p v.name = true /\ q1c v.type = true /\ 0 <= v.size /\ v.size <= 256 /\ (v.size > 0 \/ v.type = 4 -> v.value = 0) := by
 have hv := h.ok
 unfold q6x at hv
 dsimp only at hv
 split at hv
 ·rw [Bool.and_eq_true, beq_iff_eq] at hv
  simp only [Bool.and_eq_true, decide_eq_true_eq] at hv
  exact ⟨hv.1.1.1.1, hv.1.1.1.2, hv.1.1.2, hv.1.2, fun _ => hv.2⟩
 ·rename_i hc
  split at hv
  ·simp only [Bool.and_eq_true, decide_eq_true_eq] at hv
   exact ⟨hv.1.1.1.1, hv.1.1.1.2, hv.1.1.2, hv.1.2, fun q => absurd q hc⟩
  ·simp only [Bool.and_eq_true, decide_eq_true_eq] at hv
   exact ⟨hv.1.1.1.1, hv.1.1.1.2, hv.1.1.2, hv.1.2, fun q => absurd q hc⟩
theorem j8n {v : Vr} (h : VOK v) (c : UInt8) : Wf (vrI v) c := by
 have hv := h.ok
 have hl := h.lo
 have hu := h.hi
 have hn := h.facts
 obtain ⟨h1, h2, h3, h4, _⟩ := hn
 show Wf ((2, [118, 97, 114]) :: (0, [32]) :: (1, toL v.name) :: (5, [58]) :: (0, [32]) :: ((if 0 < v.size then [(5, [91]), (3, Lib.itoa v.size), (5, [93]), (0, [32])] else []) ++ (2, tyT v.type) :: (vlI v ++ [(5, [59]), (0, [10])]))) c
 have key : Wf (vlI v) 59 /\ foB (hdI (vlI v) 59) = true := by
  unfold vlI
  by_cases h0 : v.value = 0
  ·rw [if_pos h0]; exact ⟨trivial, rfl⟩
  ·rw [if_neg h0]
   refine ⟨⟨.blank (by decide), .three (by decide) (by show (32 : UInt8) ≠ 61; decide), .blank (by decide), ?_⟩, rfl⟩
   rw [q2s]
   refine ⟨?_, ?_⟩
   ·split
    ·split
     ·exact ⟨.one (by decide), trivial⟩
     ·exact trivial
    ·exact trivial
   ·refine ⟨?_, trivial⟩
    split
    ·exact .int (by omega) rfl
    ·split
     ·exact .fix (by omega) rfl
     ·exact .word (by decide) rfl
 refine ⟨.word (by decide) rfl, .blank (by decide), .name h1 rfl, .one (by decide), .blank (by decide), ?_⟩
 rw [q2s]
 refine ⟨?_, j1i h2 ?_, ?_⟩
 ·split
  ·refine ⟨.one (by decide), ?_, .one (by decide), .blank (by decide), trivial⟩
   rw [show v.size = ((v.size.toNat : Nat) : Int) by omega, z2i]
   exact .int (by omega) rfl
  ·exact trivial
 ·rw [z3i]; exact key.2
 ·rw [q2s]
  exact ⟨key.1, .one (by decide), .blank (by decide), trivial⟩
theorem x0a {α : Type} (f : α -> List It) : ∀ (l : List α), (∀ x ∈ l, ∀ c, Wf (f x) c) -> ∀ c, Wf (l.map f).flatten c
 | [], _, c => trivial
 | x :: l, h, c => by
  rw [List.map_cons, List.flatten_cons, q2s]
  exact ⟨h x List.mem_cons_self _, x0a f l (fun y hy => h y (List.mem_cons_of_mem _ hy)) c⟩
theorem j8o {R : Prop} {m : Md} (h : MOK R m) (c : UInt8) : Wf (mdI m) c := by
 unfold mdI
 rw [q2s]
 exact ⟨x0a _ _ (fun v hv c => j8n (h.vs v hv) c) _, x0a _ _ (fun f hf c => j8m (h.fs f hf) c) _⟩
theorem j1j {R : Prop} {m : Md} (h : MOK R m) (hw : q1w (q5l m) = false) : ∃ ts, q3j fxB (q5l m) = .ok (ts ++ [⟨6, ⟨#[]⟩, (q5l m).length⟩]) /\ ts.map tkT = j5t (mdI m) := by
 have hl : ¬ 16384 < (q5l m).length := by unfold q1w at hw; simpa using hw
 have e := j1g m (List.all_eq_true.2 (fun v hv => (h.vs v hv).ok)) hw
 obtain ⟨ts, h1, h2⟩ := z3j (q5l m) (mdI m) [] ((q5l m).length + 1) [] (j8o h 0) (by rw [List.nil_append]; exact e) (by rw [<- e]; omega)
 refine ⟨ts, ?_, h2⟩
 unfold q3j
 rw [if_neg hl, show (0 : Nat) = ([] : List UInt8).length from rfl, h1]
 rfl
def Tk (ts : List Tok) (l : List It) : Prop := ts.map tkT = j5t l
theorem Tk.nil {ts : List Tok} (h : Tk ts []) : ts = [] := List.map_eq_nil_iff.1 h
theorem Tk.blank {ts : List Tok} {w : List UInt8} {l : List It} (h : Tk ts ((0, w) :: l)) : Tk ts l := h
theorem Tk.cons {ts : List Tok} {k : Int} {w : List UInt8} {l : List It} (h : Tk ts ((k, w) :: l)) (hk : k ≠ 0) : ∃ t r, ts = t :: r /\ tkT t = (k, w) /\ Tk r l := by
 have h2 : ts.map tkT = (k, w) :: j5t l := by
  rw [h]
  show List.filter _ _ = _
  rw [List.filter_cons, if_pos (by simpa using hk)]; rfl
 obtain ⟨t, r, e, h3, h4⟩ := List.map_eq_cons_iff.1 h2
 exact ⟨t, r, e, h3, h4⟩
theorem Tk.app {ts : List Tok} {a b : List It} (h : Tk ts (a ++ b)) : ∃ t1 t2, ts = t1 ++ t2 /\ Tk t1 a /\ Tk t2 b := by
 have h2 : ts.map tkT = j5t a ++ j5t b := by rw [h]; exact List.filter_append ..
 obtain ⟨t1, t2, e, h3, h4⟩ := List.map_eq_append_iff.1 h2
 exact ⟨t1, t2, e, h3, h4⟩
def Rd {α : Type} (N : Nat) (r : Option (Except Flt (α × List Tok))) (P : α -> Prop) (rest : List Tok) : Prop :=
 r = none \/ (∃ x, r = some (.ok (x, rest)) /\ P x) \/ (30 < N /\ ∃ a, r = some (.error (91, a)))
theorem Rd.ok {α : Type} {N : Nat} {x : α} {P : α -> Prop} {rest : List Tok} (h : P x) : Rd N (some (.ok (x, rest))) P rest := .inr (.inl ⟨x, rfl, h⟩)
theorem Rd.mono {α : Type} {N M : Nat} {r : Option (Except Flt (α × List Tok))} {P Q : α -> Prop} {rest : List Tok} (h : Rd N r P rest) (hn : N <= M) (hq : ∀ x, P x -> Q x) : Rd M r Q rest := by
 rcases h with h | ⟨x, h1, h2⟩ | ⟨h1, h2⟩
 ·exact .inl h
 ·exact .inr (.inl ⟨x, h1, hq x h2⟩)
 ·exact .inr (.inr ⟨by omega, h2⟩)
theorem Rd.bind {α β : Type} {N M : Nat} {m : PM α} {f : α -> PM β} {ts t1 rest : List Tok} {P : α -> Prop} {Q : β -> Prop} (h : Rd N (m ts) P t1) (hn : N <= M) (hf : ∀ x, P x -> Rd M (f x t1) Q rest) : Rd M (m.bind f ts) Q rest := by
 unfold PM.bind
 rcases h with h | ⟨x, h1, h2⟩ | ⟨h1, a, h2⟩
 ·rw [h]; exact .inl rfl
 ·rw [h1]; exact hf x h2
 ·rw [h2]; exact .inr (.inr ⟨by omega, a, rfl⟩)
theorem x7l (w : List UInt8) : (tx w).toList = w := by rw [ByteArray.toList_eq]; rfl
theorem z3k (s : ByteArray) : s.toList = toL s := ByteArray.toList_eq s
theorem q1j {t : Tok} {r : List Tok} {k : Int} {w : List UInt8} (h : tkT t = (k, w)) (v : List UInt8) : isT (tx v) (t :: r) = (w == v && (k == 2 || k == 5)) := by
 unfold isT
 show ((t.text.toList == (tx v).toList) && (t.kind == 2 || t.kind == 5)) = _
 have h1 : t.kind = k := congrArg Prod.fst h
 have h2 : toL t.text = w := congrArg Prod.snd h
 rw [x7l, z3k, h1, h2]
theorem q4j {t : Tok} {r : List Tok} {k : Int} {w : List UInt8} (h : tkT t = (k, w)) (h6 : k ≠ 6) : q0w (t :: r) = r := by
 have h1 : t.kind = k := congrArg Prod.fst h
 unfold q0w
 show (if t.kind = 6 then _ else _) = _
 rw [h1, if_neg h6]; rfl
theorem x0b {t : Tok} {r : List Tok} {k : Int} {w : List UInt8} (h : tkT t = (k, w)) (hk : k = 2 \/ k = 5) : q1y (tx w) (t :: r) = some (.ok ((), r)) := by
 unfold q1y
 rw [q1j h, q4j h (by omega)]
 rcases hk with rfl | rfl <;> simp
def Nx (rest : List Tok) : Prop := isT (tx [40]) rest = false /\ isT (tx [91]) rest = false
def x0c (w : List UInt8) : Int × Int := match x2k.find? (fun p => w == p.1) with
 | some p => p.2
 | none => (0, 0)
theorem x7m (s : ByteArray) : q4y s = x0c (toL s) := by unfold q4y x0c; rw [z3k]; rfl
def Fw (least : Int) (rest : List Tok) : Prop := (rest.headD q2m).kind ≠ 5 \/ (q4y (rest.headD q2m).text).2 < least
mutual
def nsE : Ex -> Nat
 | .mk k op _ _ args _ _ _ =>
  let x := q0v (args.headD (.mk 0 0 0 ⟨#[]⟩ [] 0 0 0))
  let y := q0v (args.tail.headD (.mk 0 0 0 ⟨#[]⟩ [] 0 0 0))
  if k = 6 \/ k = 7 then 1 + (x0d args).foldr max 0
  else if k = 8 then 1 + ((if x < 6 then 1 else 0) + (x0d args).headD 0)
  else if k = 9 then max ((if x < q5b (q0u 9 op) then 1 else 0) + (x0d args).headD 0) ((if y < q0u 9 op + 1 then 1 else 0) + (x0d args).tail.headD 0)
  else 0
def x0d : List Ex -> List Nat
 | [] => []
 | e :: l => nsE e :: x0d l
end
def z1r (least : Int) (e : Ex) : Nat := (if q0v e < least then 1 else 0) + nsE e
mutual
def q2c : Ex -> Ex
 | .mk k op num name args _ _ _ => .mk k op num name (q2t args) 0 0 0
def q2t : List Ex -> List Ex
 | [] => []
 | e :: l => q2c e :: q2t l
end
def Sm (e x : Ex) : Prop := q2c x = q2c e
def moE (e : Ex) : Int := if q0v e = 6 then 5 else if q0v e = 3 then 2 else q0v e
def Ch (e : Ex) : Prop := ∀ n lv least ts rest, least <= q0v e -> Tk ts (itE e) -> Nx rest -> Fw (q0v e + 1) rest ->
  (q2w q1v n).strong least lv (ts ++ rest) = none \/ (∃ n' k x, Sm e x /\ (q2w q1v n).strong least lv (ts ++ rest) = q2r (q2w q1v n') least lv k (moE e) x rest) \/ (30 < lv + nsE e /\ ∃ a, (q2w q1v n).strong least lv (ts ++ rest) = some (.error (91, a)))
structure Bk (e : Ex) : Prop where
 one : ∀ n lv ts rest, Tk ts (inE 6 e) -> Nx rest -> Rd (lv + z1r 6 e) ((q2w q1v n).one lv (ts ++ rest)) (Sm e) rest
 chain : Ch e
theorem z1m (R : q4e) (least : Int) (lv k : Nat) (most : Int) (e : Ex) (ts : List Tok) (h : Fw least ts) : q2r R least lv k most e ts = none \/ q2r R least lv k most e ts = some (.ok (e, ts)) := by
 cases k with
 | zero => exact .inl rfl
 | succ k =>
  right
  unfold q2r
  dsimp only
  rw [if_pos]
  rcases h with h | h
  ·exact .inl h
  ·exact .inr (.inl h)
theorem z3l {o : Int} (h1 : 1 <= o) (h2 : o <= 13) : 1 <= q0u 9 o /\ q0u 9 o <= 5 := by
 have : o = 1 \/ o = 2 \/ o = 3 \/ o = 4 \/ o = 5 \/ o = 6 \/ o = 7 \/ o = 8 \/ o = 9 \/ o = 10 \/ o = 11 \/ o = 12 \/ o = 13 := by omega
 rcases this with rfl | rfl | rfl | rfl | rfl | rfl | rfl | rfl | rfl | rfl | rfl | rfl | rfl <;> decide
theorem x7n {o : Int} (h1 : 1 <= o) (h2 : o <= 13) : x0c (sgT o) = (o, q0u 9 o) := by
 have : o = 1 \/ o = 2 \/ o = 3 \/ o = 4 \/ o = 5 \/ o = 6 \/ o = 7 \/ o = 8 \/ o = 9 \/ o = 10 \/ o = 11 \/ o = 12 \/ o = 13 := by omega
 rcases this with rfl | rfl | rfl | rfl | rfl | rfl | rfl | rfl | rfl | rfl | rfl | rfl | rfl <;> decide
theorem j8p {o : Int} (h1 : 1 <= o) (h2 : o <= 13) {t : Tok} {r : List Tok} (h : tkT t = (5, sgT o)) : Nx (t :: r) := by
 unfold Nx
 rw [q1j h, q1j h]
 have : o = 1 \/ o = 2 \/ o = 3 \/ o = 4 \/ o = 5 \/ o = 6 \/ o = 7 \/ o = 8 \/ o = 9 \/ o = 10 \/ o = 11 \/ o = 12 \/ o = 13 := by omega
 rcases this with rfl | rfl | rfl | rfl | rfl | rfl | rfl | rfl | rfl | rfl | rfl | rfl | rfl <;> decide
theorem q3q {e : Ex} (h : q0v e = 6) (ho : ∀ n lv ts rest, Tk ts (itE e) -> Nx rest -> Rd (lv + nsE e) ((q2w q1v n).one lv (ts ++ rest)) (Sm e) rest) : Bk e := by
 refine ⟨fun n lv ts rest ht hx => ?_, fun n lv least ts rest hl ht hx hf => ?_⟩
 ·unfold inE at ht
  unfold z1r
  rw [h] at ht ⊢
  have := ho n lv ts rest ht hx
  exact this.mono (by omega) (fun _ q => q)
 ·cases n with
  | zero => exact .inl rfl
  | succ n =>
   have e1 : (q2w q1v (n + 1)).strong least lv (ts ++ rest) = PM.bind ((q2w q1v n).one lv) (fun e => q2r (q2w q1v n) least lv n 5 e) (ts ++ rest) := rfl
   rw [e1]
   unfold PM.bind
   rcases ho n lv ts rest ht hx with q | ⟨x, q1, q2⟩ | ⟨q1, a, q2⟩
   ·rw [q]; exact .inl rfl
   ·rw [q1]
    right; left
    refine ⟨n, n, x, q2, ?_⟩
    unfold moE
    rw [if_pos h]
   ·rw [q2]; exact .inr (.inr ⟨q1, a, rfl⟩)
theorem q5c {e : Ex} (h : Ch e) (n lv : Nat) (least : Int) (hl : least <= q0v e) (ts rest : List Tok) (ht : Tk ts (itE e)) (hx : Nx rest) (hf : Fw least rest) : Rd (lv + nsE e) ((q2w q1v n).strong least lv (ts ++ rest)) (Sm e) rest := by
 have hf2 : Fw (q0v e + 1) rest := by
  rcases hf with q | q
  ·exact .inl q
  ·exact .inr (by omega)
 rcases h n lv least ts rest hl ht hx hf2 with q | ⟨n', k, x, q1, q2⟩ | ⟨q1, a, q2⟩
 ·rw [q]; exact .inl rfl
 ·rw [q2]
  rcases z1m (q2w q1v n') least lv k (moE e) x rest hf with q | q
  ·rw [q]; exact .inl rfl
  ·rw [q]; exact Rd.ok q1
 ·rw [q2]; exact .inr (.inr ⟨q1, a, rfl⟩)
theorem z3m (n : Nat) (least : Int) (lv : Nat) (ts : List Tok) : (q2w q1v (n + 1)).strong least lv ts = PM.bind ((q2w q1v n).one lv) (fun e => q2r (q2w q1v n) least lv n 5 e) ts := rfl
theorem Bk.strong {e : Ex} (h : Bk e) (n lv : Nat) (least : Int) (hl6 : least <= 6) (ts rest : List Tok) (ht : Tk ts (inE least e)) (hx : Nx rest) (hf : Fw least rest) : Rd (lv + z1r least e) ((q2w q1v n).strong least lv (ts ++ rest)) (Sm e) rest := by
 by_cases hl : q0v e < least
 ·have h6 : q0v e < 6 := by omega
  have ht6 : Tk ts (inE 6 e) := by
   unfold inE at ht ⊢
   rw [decide_eq_true hl] at ht
   rw [decide_eq_true h6]; exact ht
  have hn : z1r least e = z1r 6 e := by unfold z1r; rw [if_pos hl, if_pos h6]
  rw [hn]
  cases n with
  | zero => exact .inl rfl
  | succ n =>
   rw [z3m]
   refine Rd.bind (h.one n lv ts rest ht6 hx) (Nat.le_refl _) (fun x hx => ?_)
   rcases z1m (q2w q1v n) least lv n 5 x rest hf with q | q
   ·rw [q]; exact .inl rfl
   ·rw [q]; exact Rd.ok hx
 ·have ht0 : Tk ts (itE e) := by
   unfold inE at ht
   rw [decide_eq_false hl] at ht; exact ht
  have hn : z1r least e = nsE e := by unfold z1r; rw [if_neg hl]; omega
  rw [hn]
  exact q5c h.chain n lv least (by omega) ts rest ht0 hx hf
theorem Bk.left {l : Ex} (h : Bk l) {o : Int} (h1 : 1 <= o) (h2 : o <= 13) (n lv : Nat) (least : Int) (hl : least <= q0u 9 o) (ts r : List Tok) (t : Tok) (ht : Tk ts (inE (q5b (q0u 9 o)) l)) (hp : tkT t = (5, sgT o)) :
  (q2w q1v n).strong least lv (ts ++ t :: r) = none \/ (∃ n' k x m, Sm l x /\ q0u 9 o <= m /\ (q2w q1v n).strong least lv (ts ++ t :: r) = q2r (q2w q1v n') least lv k m x (t :: r)) \/ (30 < lv + z1r (q5b (q0u 9 o)) l /\ ∃ a, (q2w q1v n).strong least lv (ts ++ t :: r) = some (.error (91, a))) := by
 obtain ⟨s, hs⟩ : ∃ s, s = q0u 9 o := ⟨_, rfl⟩
 have hb := z3l h1 h2
 have hx := j8p h1 h2 (r := r) hp
 have ho : (q4y t.text).2 = s := by rw [x7m, show toL t.text = sgT o from congrArg Prod.snd hp, x7n h1 h2, hs]
 rw [<- hs] at hl ht hb ⊢
 have hlb : s <= q5b s /\ q5b s <= 5 /\ (s = 3 -> q5b s = 4) := by unfold q5b; split <;> omega
 by_cases hlt : q0v l < q5b s
 ·have h6 : q0v l < 6 := by omega
  have ht6 : Tk ts (inE 6 l) := by
   unfold inE at ht ⊢
   rw [decide_eq_true hlt] at ht
   rw [decide_eq_true h6]; exact ht
  have hn : z1r (q5b s) l = z1r 6 l := by unfold z1r; rw [if_pos hlt, if_pos h6]
  rw [hn]
  cases n with
  | zero => exact .inl rfl
  | succ n =>
   rw [z3m]
   unfold PM.bind
   rcases h.one n lv ts (t :: r) ht6 hx with q | ⟨x, q1, q2⟩ | ⟨q1, a, q2⟩
   ·rw [q]; exact .inl rfl
   ·rw [q1]; exact .inr (.inl ⟨n, n, x, 5, q2, hb.2, rfl⟩)
   ·rw [q2]; exact .inr (.inr ⟨q1, a, rfl⟩)
 ·have ht0 : Tk ts (itE l) := by
   unfold inE at ht
   rw [decide_eq_false hlt] at ht; exact ht
  have hn : z1r (q5b s) l = nsE l := by unfold z1r; rw [if_neg hlt]; omega
  rw [hn]
  have hf : Fw (q0v l + 1) (t :: r) := .inr (by show (q4y t.text).2 < _; rw [ho]; omega)
  rcases h.chain n lv least ts (t :: r) (by omega) ht0 hx hf with q | ⟨n', k, x, q1, q2⟩ | q
  ·exact .inl q
  ·refine .inr (.inl ⟨n', k, x, moE l, q1, ?_, q2⟩)
   unfold moE
   split
   ·exact hb.2
   ·split
    ·omega
    ·omega
  ·exact .inr (.inr q)
theorem q5o {α : Type} {N lv : Nat} {l r : List UInt8} {read : Nat -> PM α} {tl tr : Tok} {ts rest : List Tok} {P : α -> Prop} (hl : tkT tl = (5, l)) (hr : tkT tr = (5, r)) (h : Rd (lv + 1 + N) (read (lv + 1) (ts ++ tr :: rest)) P (tr :: rest)) : Rd (lv + (1 + N)) (q2n lv (tx l) read (tx r) (tl :: (ts ++ tr :: rest))) P rest := by
 unfold q2n
 have h1 : isT (tx l) (tl :: (ts ++ tr :: rest)) = true := by rw [q1j hl]; simp
 rw [h1, if_pos rfl]
 unfold q1x
 by_cases h30 : lv = 30
 ·rw [if_pos h30]; exact .inr (.inr ⟨by omega, _, rfl⟩)
 ·rw [if_neg h30]
  dsimp only
  rw [q4j hl (by decide)]
  refine Rd.bind h (by omega) (fun x hx => ?_)
  refine Rd.bind (N := 0) (P := fun _ => True) (t1 := rest) ?_ (Nat.zero_le _) (fun _ _ => Rd.ok hx)
  rw [x0b hr (.inr rfl)]
  exact Rd.ok trivial
theorem z2j {t : Tok} {r : List Tok} {w : List UInt8} {least : Int} (h : tkT t = (5, w)) (hw : (x0c w).2 < least) : Fw least (t :: r) := by
 right
 show (q4y t.text).2 < least
 rw [x7m, show toL t.text = w from congrArg Prod.snd h]; exact hw
theorem z2k {t : Tok} {r : List Tok} {w : List UInt8} {k : Int} (h : tkT t = (k, w)) (h1 : w ≠ [40]) (h2 : w ≠ [91]) : Nx (t :: r) := by
 unfold Nx
 rw [q1j h, q1j h]
 simp [h1, h2]
theorem q7w {R : Prop} {e : Ex} (h : EOK R e) : 1 <= q0v e := by
 cases h with
 | both h1 h2 _ _ _ => exact (z3l h1 h2).1
 | _ => show (1 : Int) <= 6; decide
theorem j7h {R : Prop} {e : Ex} (h : Ch e) (hk : EOK R e) {lv n : Nat} {l r : List UInt8} {tl tr : Tok} {ts rest : List Tok} (hl : tkT tl = (5, l)) (hr : tkT tr = (5, r)) (ht : Tk ts (itE e)) (hw : (x0c r).2 < 1) (h1 : r ≠ [40]) (h2 : r ≠ [91]) : Rd (lv + (1 + nsE e)) (q2n lv (tx l) (fun lv => (q2w q1v n).strong 1 lv) (tx r) (tl :: (ts ++ tr :: rest))) (Sm e) rest :=
 q5o hl hr (q5c h n (lv + 1) 1 (q7w hk) ts (tr :: rest) ht (z2k hr h1 h2) (z2j hr hw))
theorem z2l (n lv : Nat) (ts : List Tok) : (q2w q1v (n + 1)).one lv ts = x4f q1v n (q2w q1v n) lv ts := rfl
theorem z5v {n lv : Nat} {t : Tok} {r : List Tok} {k : Int} {w : List UInt8} (h : tkT t = (k, w)) (h1 : (w == [33] && (k == 2 || k == 5)) = false) (h2 : (w == [45] && (k == 2 || k == 5)) = false) : x4f q1v n (q2w q1v n) lv (t :: r) = z0r q1v n (q2w q1v n) lv (t :: r) := by
 unfold x4f
 rw [q1j h, q1j h, h1, h2]; rfl
theorem z3n {n lv : Nat} {t : Tok} {r : List Tok} {w : List UInt8} (h : tkT t = (1, w)) : (q2w q1v (n + 1)).one lv (t :: r) = (if isT (tx [40]) r then q8k n (q2w q1v n) lv t r
  else if isT (tx [91]) r then (q4m (q2w q1v n) lv).bind (fun l => .ret (.mk 6 0 0 t.text l t.at_ 0 0)) r
  else some (.ok (.mk 5 0 0 t.text [] t.at_ 0 0, r))) := by
 have hk : t.kind = 1 := congrArg Prod.fst h
 rw [z2l, z5v h (by simp) (by simp)]
 unfold z0r
 have e1 : ((t :: r).headD q2m) = t := rfl
 simp only [e1, hk, q1j h, Bool.and_false, Bool.or_false, Bool.false_eq_true, if_false, show (1 : Int) ≠ 3 by decide, show (1 : Int) ≠ 4 by decide, show ((1 : Int) == 2) = false by decide, show ((1 : Int) == 5) = false by decide]
 have e2 : q6a (t :: r) = some (.ok (t, r)) := by
  unfold q6a x4e
  rw [e1, if_pos hk, q4j h (by decide)]
 unfold PM.bind
 rw [e2]
theorem q5h {t : Tok} {s : ByteArray} {k : Int} (h : tkT t = (k, toL s)) : t.text = s := by
 have h2 : toL t.text = toL s := congrArg Prod.snd h
 cases t with
 | mk a b c =>
  cases b; cases s
  simp only [toL] at h2
  have := Array.toList_inj.1 h2
  rw [this]
def Hd (l : List It) : Prop := ∀ ts, Tk ts l -> ∃ t r, ts = t :: r /\ ∀ v r', v = [41] \/ v = [59] -> isT (tx v) (t :: r') = false
theorem Hd.app {a b : List It} (h : Hd a) : Hd (a ++ b) := fun ts ht => by
 obtain ⟨t1, t2, rfl, h1, h2⟩ := ht.app
 obtain ⟨t, r, rfl, h3⟩ := h t1 h1
 exact ⟨t, r ++ t2, rfl, h3⟩
theorem z0j {k : Int} {w : List UInt8} {l : List It} (hk : k ≠ 0) (h1 : (w == [41] && (k == 2 || k == 5)) = false) (h2 : (w == [59] && (k == 2 || k == 5)) = false) : Hd ((k, w) :: l) := fun ts ht => by
 obtain ⟨t, r, e, h3, _⟩ := ht.cons hk
 refine ⟨t, r, e, fun v r' hv => ?_⟩
 rcases hv with rfl | rfl
 ·rw [q1j h3]; exact h1
 ·rw [q1j h3]; exact h2
theorem Hd.par {l : List It} (h : Hd l) (b : Bool) : Hd (j0z b l) := by
 cases b with
 | false => exact h
 | true => exact z0j (by decide) (by decide) (by decide)
theorem hdE {R : Prop} {e : Ex} (h : EOK R e) : Hd (itE e) := by
 induction h with
 | int _ _ => exact z0j (by decide) (by simp) (by simp)
 | fix _ _ => exact z0j (by decide) (by simp) (by simp)
 | bool h _ => rcases h with rfl | rfl <;> exact z0j (by decide) (by decide) (by decide)
 | null _ => exact z0j (by decide) (by decide) (by decide)
 | name _ _ => exact z0j (by decide) (by simp) (by simp)
 | index _ _ _ _ => exact z0j (by decide) (by simp) (by simp)
 | call _ _ _ _ _ => exact z0j (by decide) (by simp) (by simp)
 | one ho _ _ _ => rcases ho with rfl | rfl <;> exact z0j (by decide) (by decide) (by decide)
 | both _ _ _ _ _ ih _ => exact (ih.par _).app
theorem x7o (l : List (List It)) : z8i l true = if l = [] then [] else (5, [44]) :: (0, [32]) :: z8i l false := by
 cases l with
 | nil => rfl
 | cons x l => rw [if_neg (by simp)]; rfl
theorem x7p {R : Prop} : ∀ (l : List Ex), (∀ x ∈ l, EOK R x) -> (∀ x ∈ l, Bk x) -> ∀ (m n lv : Nat) (acc : List Ex) (ts rest : List Tok) (tr : Tok), tkT tr = (5, [41]) -> Tk ts (z8i (l.map itE) false) ->
  Rd (lv + (l.map nsE).foldr max 0) (z2p (tx [41]) (fun _ => q3b (q2w q1v n) lv) m acc (ts ++ tr :: rest)) (fun x => ∃ y, x = acc ++ y /\ q2t y = q2t l) (tr :: rest)
 | [], hk, h, m, n, lv, acc, ts, rest, tr, htr, ht => by
  obtain rfl := Tk.nil ht
  cases m with
  | zero => exact .inl rfl
  | succ m =>
   unfold z2p
   rw [List.nil_append, q1j htr, show (([41] : List UInt8) == [41] && ((5 : Int) == 2 || (5 : Int) == 5)) = true from rfl, if_pos rfl]
   exact Rd.ok ⟨[], by simp, rfl⟩
 | x :: l, hk, h, m, n, lv, acc, ts, rest, tr, htr, ht => by
  have ht2 : Tk ts (itE x ++ z8i (l.map itE) true) := ht
  obtain ⟨t1, t2, rfl, h1, h2⟩ := ht2.app
  have hkx := hk x List.mem_cons_self
  obtain ⟨th, tr1, he, hh⟩ := hdE hkx t1 h1
  cases m with
  | zero => exact .inl rfl
  | succ m =>
   unfold z2p
   have e0 : isT (tx [41]) (t1 ++ t2 ++ tr :: rest) = false := by rw [he]; exact hh _ _ (.inl rfl)
   rw [e0, List.append_assoc]
   simp only [Bool.false_eq_true, if_false]
   have hmx : lv + nsE x <= lv + ((x :: l).map nsE).foldr max 0 := by
    show lv + nsE x <= lv + max (nsE x) ((l.map nsE).foldr max 0)
    omega
   have hs : ∀ (t : Tok) (r : List Tok) (w : List UInt8), tkT t = (5, w) -> (x0c w).2 < 1 -> w ≠ [40] -> w ≠ [91] -> Rd (lv + nsE x) (q3b (q2w q1v n) lv (t1 ++ t :: r)) (Sm x) (t :: r) := fun t r w ht hw q1 q2 =>
    q5c (h x List.mem_cons_self).chain n lv 1 (q7w hkx) t1 (t :: r) h1 (z2k ht q1 q2) (z2j ht hw)
   by_cases hl : l = []
   ·subst hl
    obtain rfl := Tk.nil h2
    refine Rd.bind (hs tr rest [41] htr (by decide) (by decide) (by decide)) hmx (fun y hy => ?_)
    rw [q1j htr, show (([41] : List UInt8) == [41] && ((5 : Int) == 2 || (5 : Int) == 5)) = true from rfl, if_pos rfl]
    exact Rd.ok ⟨[y], rfl, by show [q2c y] = [q2c x]; rw [hy]⟩
   ·rw [x7o, if_neg (by simpa using hl)] at h2
    obtain ⟨tc, t3, rfl, hc, h3⟩ := h2.cons (by decide)
    have h4 := h3.blank
    refine Rd.bind (hs tc (t3 ++ tr :: rest) [44] hc (by decide) (by decide) (by decide)) hmx (fun y hy => ?_)
    show Rd _ (if isT (tx [41]) (tc :: (t3 ++ tr :: rest)) then _ else _) _ _
    rw [q1j hc, show (([44] : List UInt8) == [41] && ((5 : Int) == 2 || (5 : Int) == 5)) = false from rfl]
    simp only [Bool.false_eq_true, if_false]
    refine Rd.bind (N := 0) (P := fun _ => True) (t1 := t3 ++ tr :: rest) ?_ (Nat.zero_le _) (fun _ _ => ?_)
    ·rw [x0b hc (.inr rfl)]; exact Rd.ok trivial
    ·have e1 : isT (tx [41]) (t3 ++ tr :: rest) = false := by
      cases l with
      | nil => exact absurd rfl hl
      | cons z l =>
       have h5 : Tk t3 (itE z ++ z8i (l.map itE) true) := h4
       obtain ⟨u1, u2, rfl, g1, g2⟩ := h5.app
       obtain ⟨th, tr1, rfl, hh⟩ := hdE (hk z (by simp)) u1 g1
       exact hh _ _ (.inl rfl)
     rw [e1]
     simp only [Bool.false_eq_true, if_false]
     refine (x7p l (fun x hx => hk x (List.mem_cons_of_mem _ hx)) (fun x hx => h x (List.mem_cons_of_mem _ hx)) m n lv (acc ++ [y]) t3 rest tr htr h4).mono ?_ ?_
     ·show lv + (l.map nsE).foldr max 0 <= lv + max (nsE x) ((l.map nsE).foldr max 0)
      omega
     ·rintro z ⟨q, rfl, hq⟩
      refine ⟨y :: q, by simp, ?_⟩
      show q2c y :: q2t q = q2c x :: q2t l
      rw [hq, hy]
theorem z5w (l : List Ex) : x0d l = l.map nsE := by
 induction l with
 | nil => rfl
 | cons e l ih => show nsE e :: x0d l = _; rw [ih]; rfl
theorem z3o {n lv : Nat} {t : Tok} {r : List Tok} {k : Int} {w : List UInt8} (h : tkT t = (k, w)) (hk : k = 3 \/ k = 4 \/ (k = 2 /\ (w = [116, 114, 117, 101] \/ w = [102, 97, 108, 115, 101] \/ w = [110, 117, 108, 108]))) :
  (q2w q1v (n + 1)).one lv (t :: r) = some (.ok (if k = 3 then .mk 1 0 (q1v t) n0 [] t.at_ 0 0 else if k = 4 then .mk 2 0 (q1v t) n0 [] t.at_ 0 0 else if w = [116, 114, 117, 101] then .mk 3 0 1 n0 [] t.at_ 0 0 else if w = [102, 97, 108, 115, 101] then .mk 3 0 0 n0 [] t.at_ 0 0 else .mk 4 0 0 n0 [] t.at_ 0 0, r)) := by
 have h1 : t.kind = k := congrArg Prod.fst h
 have e1 : ((t :: r).headD q2m) = t := rfl
 rw [z2l, z5v h (by rcases hk with rfl | rfl | ⟨rfl, rfl | rfl | rfl⟩ <;> simp) (by rcases hk with rfl | rfl | ⟨rfl, rfl | rfl | rfl⟩ <;> simp)]
 unfold z0r
 simp only [e1, h1, q1j h, q4j h (show k ≠ 6 by omega)]
 rcases hk with rfl | rfl | ⟨rfl, rfl | rfl | rfl⟩ <;> simp
theorem j2s {R : Prop} {e : Ex} (h : EOK R e) : Bk e := by
 induction h with
 | @int v a t p hv _ =>
  refine q3q rfl (fun n lv ts rest ht hx => ?_)
  obtain ⟨u, r, rfl, hu, hr⟩ := ht.cons (show (3 : Int) ≠ 0 by decide)
  obtain rfl := hr.nil
  cases n with
  | zero => exact .inl rfl
  | succ n =>
   rw [List.singleton_append, z3o hu (.inl rfl), if_pos rfl]
   refine Rd.ok ?_
   have : q1v u = v := by
    unfold q1v
    have h1 : u.kind = 3 := congrArg Prod.fst hu
    have h2 : toL u.text = Lib.itoa v := congrArg Prod.snd hu
    rw [h1, if_neg (by decide)]
    show (decU (toL u.text) : Int) = v
    rw [h2, z2i, z2e]
   rw [this]; rfl
 | @fix v a t p hv _ =>
  refine q3q rfl (fun n lv ts rest ht hx => ?_)
  obtain ⟨u, r, rfl, hu, hr⟩ := ht.cons (show (4 : Int) ≠ 0 by decide)
  obtain rfl := hr.nil
  cases n with
  | zero => exact .inl rfl
  | succ n =>
   rw [List.singleton_append, z3o hu (.inr (.inl rfl)), if_neg (by decide), if_pos rfl]
   refine Rd.ok ?_
   have : q1v u = v := by
    unfold q1v
    have h1 : u.kind = 4 := congrArg Prod.fst hu
    have h2 : toL u.text = q4o v := congrArg Prod.snd hu
    rw [h1, if_pos rfl]
    show (z8g (toL u.text)).getD 0 = v
    rw [h2, (z3h v hv).1]; rfl
   rw [this]; rfl
 | @bool v a t p hv _ =>
  rcases hv with rfl | rfl
  ·refine q3q rfl (fun n lv ts rest ht hx => ?_)
   obtain ⟨u, r, rfl, hu, hr⟩ := ht.cons (w := [102, 97, 108, 115, 101]) (show (2 : Int) ≠ 0 by decide)
   obtain rfl := Tk.nil hr
   cases n with
   | zero => exact .inl rfl
   | succ n =>
    rw [List.singleton_append, z3o hu (.inr (.inr ⟨rfl, .inr (.inl rfl)⟩))]
    exact Rd.ok rfl
  ·refine q3q rfl (fun n lv ts rest ht hx => ?_)
   obtain ⟨u, r, rfl, hu, hr⟩ := ht.cons (w := [116, 114, 117, 101]) (show (2 : Int) ≠ 0 by decide)
   obtain rfl := Tk.nil hr
   cases n with
   | zero => exact .inl rfl
   | succ n =>
    rw [List.singleton_append, z3o hu (.inr (.inr ⟨rfl, .inl rfl⟩))]
    exact Rd.ok rfl
 | @null a t p _ =>
  refine q3q rfl (fun n lv ts rest ht hx => ?_)
  obtain ⟨u, r, rfl, hu, hr⟩ := ht.cons (w := [110, 117, 108, 108]) (show (2 : Int) ≠ 0 by decide)
  obtain rfl := Tk.nil hr
  cases n with
  | zero => exact .inl rfl
  | succ n =>
   rw [List.singleton_append, z3o hu (.inr (.inr ⟨rfl, .inr (.inr rfl)⟩))]
   exact Rd.ok rfl
 | @name s a t p hn _ =>
  refine q3q rfl (fun n lv ts rest ht hx => ?_)
  obtain ⟨u, r, rfl, hu, hr⟩ := ht.cons (w := toL s) (show (1 : Int) ≠ 0 by decide)
  obtain rfl := Tk.nil hr
  cases n with
  | zero => exact .inl rfl
  | succ n =>
   rw [List.singleton_append, z3n hu, hx.1, hx.2]
   simp only [Bool.false_eq_true, if_false]
   rw [q5h hu]
   exact Rd.ok rfl
 | @index s x a t p hn hk _ ih =>
  refine q3q rfl (fun n lv ts rest ht hx => ?_)
  have ht2 : Tk ts ((1, toL s) :: (5, [91]) :: (itE x ++ [(5, [93])])) := ht
  obtain ⟨u, r, rfl, hu, hr⟩ := ht2.cons (by decide)
  obtain ⟨ul, r1, rfl, hl, hr1⟩ := hr.cons (by decide)
  obtain ⟨u1, u2, rfl, h1, h2⟩ := hr1.app
  obtain ⟨ur, r2, rfl, hrr, hr2⟩ := h2.cons (by decide)
  obtain rfl := hr2.nil
  cases n with
  | zero => exact .inl rfl
  | succ n =>
   have e1 : (u :: ul :: (u1 ++ [ur])) ++ rest = u :: ul :: (u1 ++ ur :: rest) := by simp
   rw [e1, z3n hu, q1j hl, q1j hl, show (([91] : List UInt8) == [40] && ((5 : Int) == 2 || (5 : Int) == 5)) = false from rfl, show (([91] : List UInt8) == [91] && ((5 : Int) == 2 || (5 : Int) == 5)) = true from rfl]
   simp only [Bool.false_eq_true, if_false, if_true]
   have en : nsE (.mk 6 0 0 s [x] a t p) = 1 + max (nsE x) 0 := rfl
   rw [en]
   refine Rd.bind (N := lv + (1 + nsE x)) (P := fun l => q2t l = [q2c x]) (t1 := rest) ?_ (by omega) (fun y hy => ?_)
   ·unfold q4m
    refine q5o hl hrr ?_
    refine Rd.bind (q5c ih.chain n (lv + 1) 1 (q7w hk) u1 (ur :: rest) h1 (z2k hrr (by decide) (by decide)) (z2j hrr (by decide))) (Nat.le_refl _) (fun y hy => Rd.ok ?_)
    show [q2c y] = [q2c x]
    rw [hy]
   ·refine Rd.ok ?_
    rw [q5h hu]
    show Ex.mk 6 0 0 s (q2t y) 0 0 0 = Ex.mk 6 0 0 s [q2c x] 0 0 0
    rw [hy]
 | @call s l a t p hn hlen hk _ ih =>
  refine q3q rfl (fun n lv ts rest ht hx => ?_)
  have ht2 : Tk ts ((1, toL s) :: (5, [40]) :: (z8i (x8m l) false ++ [(5, [41])])) := ht
  obtain ⟨u, r, rfl, hu, hr⟩ := ht2.cons (by decide)
  obtain ⟨ul, r1, rfl, hl, hr1⟩ := hr.cons (by decide)
  obtain ⟨u1, u2, rfl, h1, h2⟩ := hr1.app
  obtain ⟨ur, r2, rfl, hrr, hr2⟩ := h2.cons (by decide)
  obtain rfl := hr2.nil
  rw [z0f] at h1
  cases n with
  | zero => exact .inl rfl
  | succ n =>
   have e1 : (u :: ul :: (u1 ++ [ur])) ++ rest = u :: ul :: (u1 ++ ur :: rest) := by simp
   rw [e1, z3n hu, q1j hl, show (([40] : List UInt8) == [40] && ((5 : Int) == 2 || (5 : Int) == 5)) = true from rfl]
   simp only [if_true]
   have en : nsE (.mk 7 0 0 s l a t p) = 1 + (x0d l).foldr max 0 := rfl
   rw [en, z5w]
   unfold q8k
   refine Rd.bind (N := lv + (1 + (l.map nsE).foldr max 0)) (P := fun y => q2t y = q2t l) (t1 := rest) ?_ (Nat.le_refl _) (fun y hy => ?_)
   ·refine q5o hl hrr ?_
    exact (x7p l hk ih n n (lv + 1) [] u1 rest ur hrr h1).mono (Nat.le_refl _) (fun x ⟨y, h3, h4⟩ => by rw [h3]; exact h4)
   ·refine Rd.ok ?_
    rw [q5h hu]
    show Ex.mk 7 0 0 s (q2t y) 0 0 0 = Ex.mk 7 0 0 s (q2t l) 0 0 0
    rw [hy]
 | @one o x a t p ho hk _ ih =>
  refine q3q rfl (fun n lv ts rest ht hx => ?_)
  have ht2 : Tk ts ((5, sgT o) :: inE 6 x) := ht
  obtain ⟨u, r, rfl, hu, hr⟩ := ht2.cons (by decide)
  have en : nsE (.mk 8 o 0 n0 [x] a t p) = 1 + z1r 6 x := rfl
  rw [en]
  cases n with
  | zero => exact .inl rfl
  | succ n =>
   have key : ∀ (q : Int) (m : Int), q = o -> Rd (lv + (1 + z1r 6 x)) (q1x lv (fun lv ts => ((q2w q1v n).one lv).bind (fun e => .ret (.mk 8 q 0 ⟨#[]⟩ [e] m 0 0)) (q0w ts)) (u :: (r ++ rest))) (Sm (.mk 8 o 0 n0 [x] a t p)) rest := by
    intro q m hq
    unfold q1x
    by_cases h30 : lv = 30
    ·rw [if_pos h30]; exact .inr (.inr ⟨by omega, _, rfl⟩)
    ·rw [if_neg h30]
     dsimp only
     rw [q4j hu (by decide)]
     refine Rd.bind (ih.one n (lv + 1) r rest hr hx) (by omega) (fun y hy => Rd.ok ?_)
     show Ex.mk 8 q 0 n0 [q2c y] 0 0 0 = Ex.mk 8 o 0 n0 [q2c x] 0 0 0
     rw [hy, hq]
   rw [z2l]
   unfold x4f
   show Rd _ (if isT _ (u :: (r ++ rest)) then _ else if isT _ (u :: (r ++ rest)) then _ else _) _ _
   rw [q1j hu, q1j hu]
   rcases ho with rfl | rfl
   ·rw [show (sgT 14 == [33] && ((5 : Int) == 2 || (5 : Int) == 5)) = false from rfl, show (sgT 14 == [45] && ((5 : Int) == 2 || (5 : Int) == 5)) = true from rfl]
    simp only [Bool.false_eq_true, if_false, if_true]
    exact key 14 _ rfl
   ·rw [show (sgT 15 == [33] && ((5 : Int) == 2 || (5 : Int) == 5)) = true from rfl]
    simp only [if_true]
    exact key 15 _ rfl
 | @both o x y a t p h1 h2 hx hy hr ix iy =>
  have hs := z3l h1 h2
  have es : q0v (.mk 9 o 0 n0 [x, y] a t p) = q0u 9 o := rfl
  have en : nsE (.mk 9 o 0 n0 [x, y] a t p) = max (z1r (q5b (q0u 9 o)) x) (z1r (q0u 9 o + 1) y) := rfl
  have hc : Ch (.mk 9 o 0 n0 [x, y] a t p) := by
   intro n lv least ts rest hl ht hnx hf
   have ht2 : Tk ts (inE (q5b (q0u 9 o)) x ++ (0, [32]) :: (5, sgT o) :: (0, [32]) :: inE (q0u 9 o + 1) y) := ht
   obtain ⟨u1, u2, rfl, g1, g2⟩ := ht2.app
   obtain ⟨u, u3, rfl, g3, g4⟩ := g2.blank.cons (by decide)
   have g5 := g4.blank
   rw [es] at hl hf
   rw [en]
   have ea : u1 ++ u :: u3 ++ rest = u1 ++ u :: (u3 ++ rest) := by simp
   rw [ea]
   rcases ix.left h1 h2 n lv least hl u1 (u3 ++ rest) u g1 g3 with q | ⟨n', k, x', m, q1, q2, q3⟩ | ⟨q1, q2⟩
   ·exact .inl q
   ·rw [q3]
    cases k with
    | zero => exact .inl rfl
    | succ k =>
     have e1 : q2r (q2w q1v n') least lv (k + 1) m x' (u :: (u3 ++ rest)) = PM.bind ((q2w q1v n').strong (q0u 9 o + 1) lv) (fun e2 => q2r (q2w q1v n') least lv k (if q0u 9 o = 3 then 2 else q0u 9 o) (.mk 9 o 0 ⟨#[]⟩ [x', e2] u.at_ 0 0)) (u3 ++ rest) := by
      conv => lhs; unfold q2r
      have h5 : u.kind = 5 := congrArg Prod.fst g3
      have hb : q4y u.text = (o, q0u 9 o) := by rw [x7m, show toL u.text = sgT o from congrArg Prod.snd g3, x7n h1 h2]
      have eh : (u :: (u3 ++ rest)).headD q2m = u := rfl
      simp only [eh, hb, h5]
      rw [if_neg (by omega), q4j g3 (by decide)]
     rw [e1]
     unfold PM.bind
     rcases iy.strong n' lv (q0u 9 o + 1) (by omega) u3 rest g5 hnx hf with q | ⟨y', p1, p2⟩ | ⟨p1, a1, p2⟩
     ·rw [q]; exact .inl rfl
     ·rw [p1]
      right; left
      refine ⟨n', k, .mk 9 o 0 n0 [x', y'] u.at_ 0 0, ?_, ?_⟩
      ·show Ex.mk 9 o 0 n0 [q2c x', q2c y'] 0 0 0 = Ex.mk 9 o 0 n0 [q2c x, q2c y] 0 0 0
       rw [q1, p2]
      ·unfold moE
       rw [es, if_neg (show ¬ q0u 9 o = 6 by omega)]
     ·rw [p2]; exact .inr (.inr ⟨by omega, a1, rfl⟩)
   ·exact .inr (.inr ⟨by omega, q2⟩)
  refine ⟨fun n lv ts rest ht hnx => ?_, hc⟩
  have h6 : q0v (.mk 9 o 0 n0 [x, y] a t p) < 6 := by rw [es]; omega
  have ht2 : Tk ts ((5, [40]) :: (itE (.mk 9 o 0 n0 [x, y] a t p) ++ [(5, [41])])) := by
   unfold inE at ht
   rw [decide_eq_true h6] at ht; exact ht
  have e6 : z1r 6 (.mk 9 o 0 n0 [x, y] a t p) = 1 + nsE (.mk 9 o 0 n0 [x, y] a t p) := by unfold z1r; rw [if_pos h6]
  rw [e6]
  obtain ⟨ul, r1, rfl, hl, hr1⟩ := ht2.cons (by decide)
  obtain ⟨u1, u2, rfl, g1, g2⟩ := hr1.app
  obtain ⟨ur, r2, rfl, hrr, hr2⟩ := g2.cons (by decide)
  obtain rfl := hr2.nil
  cases n with
  | zero => exact .inl rfl
  | succ n =>
   have e1 : (ul :: (u1 ++ [ur])) ++ rest = ul :: (u1 ++ ur :: rest) := by simp
   rw [e1, z2l, z5v hl (by decide) (by decide)]
   unfold z0r
   have h5 : ul.kind = 5 := congrArg Prod.fst hl
   have eh : (ul :: (u1 ++ ur :: rest)).headD q2m = ul := rfl
   simp only [eh, h5, q1j hl]
   exact j7h hc (.both h1 h2 hx hy hr) hl hrr g1 (by decide) (by decide) (by decide)
mutual
def nsS : St -> Nat
 | .mk k _ _ exprs body els _ _ =>
  if k = 3 then max (1 + (x0d exprs).headD 0) ((x0d exprs).tail.headD 0)
  else if k = 4 then max ((x0d exprs).headD 0) (max (1 + (z7w body).foldr max 0) (if els.length = 0 then 0 else 1 + (z7w els).foldr max 0))
  else if k = 5 then max ((x0d exprs).headD 0) (1 + (z7w body).foldr max 0)
  else (x0d exprs).headD 0
def z7w : List St -> List Nat
 | [] => []
 | s :: l => nsS s :: z7w l
end
theorem z0k (l : List St) : z7w l = l.map nsS := by
 induction l with
 | nil => rfl
 | cons e l ih => show nsS e :: z7w l = _; rw [ih]; rfl
mutual
def q6s : St -> St
 | .mk k name type exprs body els _ _ => .mk k name type (q2t exprs) (q2h body) (q2h els) 0 0
def q2h : List St -> List St
 | [] => []
 | s :: l => q6s s :: q2h l
end
def Ss (s x : St) : Prop := q6s x = q6s s
theorem z5x {t : Tok} {r : List Tok} {w : List UInt8} (h : tkT t = (1, w)) (v : List UInt8) : isT (tx v) (t :: r) = false := by
 rw [q1j h]; simp
theorem x7q {t : Tok} {r : List Tok} {w : List UInt8} (h : tkT t = (1, w)) : q6a (t :: r) = some (.ok (t, r)) := by
 have e1 : ((t :: r).headD q2m) = t := rfl
 have hk : t.kind = 1 := congrArg Prod.fst h
 unfold q6a x4e
 rw [e1, if_pos hk, q4j h (by decide)]
theorem q3t {β : Type} {M : Nat} {t : Tok} {r rest : List Tok} {k : Int} {w : List UInt8} (h : tkT t = (k, w)) (hk : k = 2 \/ k = 5) {f : Unit -> PM β} {Q : β -> Prop} (hf : Rd M (f () r) Q rest) : Rd M ((q1y (tx w)).bind f (t :: r)) Q rest := by
 unfold PM.bind
 rw [x0b h hk]; exact hf
theorem z5y {β : Type} {M : Nat} {t : Tok} {r rest : List Tok} {w : List UInt8} (h : tkT t = (1, w)) {f : Tok -> PM β} {Q : β -> Prop} (hf : Rd M (f t r) Q rest) : Rd M (q6a.bind f (t :: r)) Q rest := by
 unfold PM.bind
 rw [x7q h]; exact hf
theorem x1w {t : Tok} {r : List Tok} {k : Int} {w : List UInt8} (h : tkT t = (k, w)) (h6 : k ≠ 6) (v : List UInt8) : z4a (tx v) (t :: r) = some (.ok (if (w == v && (k == 2 || k == 5)) = true then (true, r) else (false, t :: r))) := by
 unfold z4a
 rw [q1j h, q4j h h6]
 split <;> rfl
theorem x7r {t : Tok} {r : List Tok} {ty : Int} (hty : q1c ty = true) (h : tkT t = (2, tyT ty)) : q2v (t :: r) = some (.ok (ty, r)) := by
 unfold q1c at hty
 rw [decide_eq_true_eq] at hty
 unfold q2v
 simp only [q1j h, q4j h (show (2 : Int) ≠ 6 by decide)]
 have : ty = 1 \/ ty = 2 \/ ty = 3 \/ ty = 4 := by omega
 rcases this with rfl | rfl | rfl | rfl <;> rfl
theorem q7x {β : Type} {M : Nat} {t : Tok} {r rest : List Tok} {ty : Int} (hty : q1c ty = true) (h : tkT t = (2, tyT ty)) {f : Int -> PM β} {Q : β -> Prop} (hf : Rd M (f ty r) Q rest) : Rd M (q2v.bind f (t :: r)) Q rest := by
 unfold PM.bind
 rw [x7r hty h]; exact hf
theorem q9b {R : Prop} {β : Type} {e : Ex} (h : EOK R e) {n lv M : Nat} {ts r rest : List Tok} {t : Tok} {w : List UInt8} (ht : Tk ts (itE e)) (hp : tkT t = (5, w)) (hw : (x0c w).2 < 1) (h1 : w ≠ [40]) (h2 : w ≠ [91]) (hM : lv + nsE e <= M) {f : Ex -> PM β} {Q : β -> Prop} (hf : ∀ x, Sm e x -> Rd M (f x (t :: r)) Q rest) : Rd M ((q3b (q2w q1v n) lv).bind f (ts ++ t :: r)) Q rest :=
 Rd.bind (q5c (j2s h).chain n lv 1 (q7w h) ts (t :: r) ht (z2k hp h1 h2) (z2j hp hw)) hM hf
theorem z0y {M : Nat} {t : Tok} {r : List Tok} (h : tkT t = (5, [59])) {s x : St} (hs : Ss s x) : Rd M (q4p x (t :: r)) (Ss s) r := q3t h (.inr rfl) (Rd.ok hs)
def HdS (l : List It) : Prop := ∀ ts, Tk ts l -> ∃ t r, ts = t :: r /\ ∀ r', q6h (t :: r') = true /\ isT (tx [101, 108, 115, 101]) (t :: r') = false
theorem z5z {w : List UInt8} {l : List It} : HdS ((1, w) :: l) := fun ts ht => by
 obtain ⟨t, r, e, h3, _⟩ := ht.cons (show (1 : Int) ≠ 0 by decide)
 refine ⟨t, r, e, fun r' => ⟨?_, z5x h3 _⟩⟩
 unfold q6h
 show (t.kind == 1 || _ || _ || _ || _) = true
 rw [show t.kind = 1 from congrArg Prod.fst h3]; rfl
theorem z0l {w : List UInt8} {l : List It} (hw : w = [108, 101, 116] \/ w = [105, 102] \/ w = [119, 104, 105, 108, 101] \/ w = [114, 101, 116, 117, 114, 110]) : HdS ((2, w) :: l) := fun ts ht => by
 obtain ⟨t, r, e, h3, _⟩ := ht.cons (show (2 : Int) ≠ 0 by decide)
 refine ⟨t, r, e, fun r' => ?_⟩
 unfold q6h
 simp only [q1j h3]
 rcases hw with rfl | rfl | rfl | rfl <;> simp
theorem hdS {R : Prop} {s : St} (h : SOK R s) (ind : Nat) : HdS (itS s ind) := by
 cases h with
 | lt _ _ _ _ => exact z0l (.inl rfl)
 | set _ _ _ => exact z5z
 | put _ _ _ _ => exact z5z
 | iff _ _ _ _ _ _ => exact z0l (.inr (.inl rfl))
 | whl _ _ _ _ => exact z0l (.inr (.inr (.inl rfl)))
 | ret0 _ => exact z0l (.inr (.inr (.inr rfl)))
 | ret _ _ => exact z0l (.inr (.inr (.inr rfl)))
 | @call e a p hk he _ =>
  cases he with
  | call _ _ _ _ => exact z5z
  | _ => exact absurd hk (by simp [Ex.kind])
structure Sb (s : St) : Prop where
 stmt : ∀ n lv ind ts rest, Tk ts (itS s ind) -> isT (tx [101, 108, 115, 101]) rest = false -> Rd (lv + nsS s) ((q2w q1v n).stmt lv (ts ++ rest)) (Ss s) rest
 choice : s.kind = 4 -> ∀ n lv ind ts rest, Tk ts (itS s ind) -> isT (tx [101, 108, 115, 101]) rest = false -> Rd (lv + nsS s) ((q2w q1v n).choice lv (ts ++ rest)) (Ss s) rest
theorem x1x {R : Prop} : ∀ (l : List St), (∀ x ∈ l, SOK R x) -> (∀ x ∈ l, Sb x) -> ∀ (m n lv ind : Nat) (acc : List St) (ts rest : List Tok) (tr : Tok), tkT tr = (5, [125]) -> Tk ts (z9y ind (l.map itS)) -> acc.length + l.length <= 400 ->
  Rd (lv + (l.map nsS).foldr max 0) (q5i (q2w q1v n) lv m acc (ts ++ tr :: rest)) (fun x => ∃ y, x = acc ++ y /\ q2h y = q2h l) (tr :: rest)
 | [], hk, h, m, n, lv, ind, acc, ts, rest, tr, htr, ht, hl => by
  obtain rfl := Tk.nil ht
  cases m with
  | zero => exact .inl rfl
  | succ m =>
   unfold q5i
   have e0 : q6h ([] ++ tr :: rest) = false := by
    unfold q6h
    rw [List.nil_append]
    simp only [q1j htr]
    show (tr.kind == 1 || _ || _ || _ || _) = false
    rw [show tr.kind = 5 from congrArg Prod.fst htr]; rfl
   rw [e0]
   exact Rd.ok ⟨[], by simp, rfl⟩
 | x :: l, hk, h, m, n, lv, ind, acc, ts, rest, tr, htr, ht, hl => by
  have ht2 : Tk ts ((0, q2y ind) :: (itS x ind ++ (0, [10]) :: z9y ind (l.map itS))) := ht
  obtain ⟨t1, t2, rfl, h1, h2⟩ := ht2.blank.app
  have h3 := h2.blank
  obtain ⟨th, tr1, he, hh⟩ := hdS (hk x List.mem_cons_self) ind t1 h1
  cases m with
  | zero => exact .inl rfl
  | succ m =>
   unfold q5i
   have e0 : q6h (t1 ++ t2 ++ tr :: rest) = true := by rw [he]; exact (hh _).1
   rw [e0, if_pos rfl, if_neg (by simp at hl; omega), List.append_assoc]
   have hmx : lv + nsS x <= lv + ((x :: l).map nsS).foldr max 0 := by
    show lv + nsS x <= lv + max (nsS x) ((l.map nsS).foldr max 0)
    omega
   have hne : isT (tx [101, 108, 115, 101]) (t2 ++ tr :: rest) = false := by
    cases l with
    | nil =>
     obtain rfl := Tk.nil h3
     rw [List.nil_append, q1j htr]; rfl
    | cons z l =>
     have h5 : Tk t2 ((0, q2y ind) :: (itS z ind ++ (0, [10]) :: z9y ind (l.map itS))) := h3
     obtain ⟨u1, u2, rfl, g1, g2⟩ := h5.blank.app
     obtain ⟨th, tr1, rfl, hh⟩ := hdS (hk z (by simp)) ind u1 g1
     exact (hh _).2
   refine Rd.bind ((h x List.mem_cons_self).stmt n lv ind t1 (t2 ++ tr :: rest) h1 hne) hmx (fun y hy => ?_)
   refine (x1x l (fun x hx => hk x (List.mem_cons_of_mem _ hx)) (fun x hx => h x (List.mem_cons_of_mem _ hx)) m n lv ind (acc ++ [y]) t2 rest tr htr h3 (by simp at hl ⊢; omega)).mono ?_ ?_
   ·show lv + (l.map nsS).foldr max 0 <= lv + max (nsS x) ((l.map nsS).foldr max 0)
    omega
   ·rintro z ⟨q, rfl, hq⟩
    refine ⟨y :: q, by simp, ?_⟩
    show q6s y :: q2h q = q6s x :: q2h l
    rw [hq, hy]
theorem z2m {R : Prop} {l : List St} (hk : ∀ x ∈ l, SOK R x) (h : ∀ x ∈ l, Sb x) (hl : l.length <= 400) (n lv ind : Nat) (ts rest : List Tok) (ht : Tk ts (z5t (z0g l) ind)) :
  Rd (lv + (1 + (l.map nsS).foldr max 0)) ((q2w q1v n).block lv (ts ++ rest)) (fun x => q2h x = q2h l) rest := by
 have ht2 : Tk ts ((0, [32]) :: (5, [123]) :: (0, [10]) :: (z9y (ind + 1) (z0g l) ++ [(0, q2y ind), (5, [125])])) := ht
 obtain ⟨ul, r1, rfl, hl1, hr1⟩ := ht2.blank.cons (by decide)
 obtain ⟨u1, u2, rfl, h1, h2⟩ := hr1.blank.app
 obtain ⟨ur, r2, rfl, hrr, hr2⟩ := h2.blank.cons (by decide)
 obtain rfl := hr2.nil
 rw [z0h] at h1
 cases n with
 | zero => exact .inl rfl
 | succ n =>
  have e1 : (ul :: (u1 ++ [ur])) ++ rest = ul :: (u1 ++ ur :: rest) := by simp
  have e2 : (q2w q1v (n + 1)).block lv (ul :: (u1 ++ ur :: rest)) = q2n lv (tx [123]) (fun lv => q5i (q2w q1v n) lv n []) (tx [125]) (ul :: (u1 ++ ur :: rest)) := rfl
  rw [e1, e2]
  refine q5o hl1 hrr ?_
  exact (x1x l hk h n n (lv + 1) (ind + 1) [] u1 rest ur hrr h1 (by simpa using hl)).mono (Nat.le_refl _) (fun x ⟨y, h3, h4⟩ => by rw [h3]; exact h4)
theorem x1y (n lv : Nat) (ts : List Tok) : (q2w q1v (n + 1)).stmt lv ts = q9l n (q2w q1v n) lv ts := rfl
theorem x0e (n lv : Nat) (ts : List Tok) : (q2w q1v (n + 1)).choice lv ts = q6t (q2w q1v n) lv ts := rfl
theorem z3p {n lv : Nat} {t : Tok} {r : List Tok} {w : List UInt8} (h : tkT t = (1, w)) : (q2w q1v (n + 1)).stmt lv (t :: r) = (if isT (tx [40]) r then (q8k n (q2w q1v n) lv t).bind (fun e => q4p (.mk 7 ⟨#[]⟩ 0 [e] [] [] t.at_ 0)) r
  else if isT (tx [91]) r then (q4m (q2w q1v n) lv).bind (fun l => (q1y (tx [61])).bind fun _ => (q3b (q2w q1v n) lv).bind fun e => q4p (.mk 3 t.text 0 (l ++ [e]) [] [] t.at_ 0)) r
  else (q1y (tx [61])).bind (fun _ => (q3b (q2w q1v n) lv).bind fun e => q4p (.mk 2 t.text 0 [e] [] [] t.at_ 0)) r) := by
 rw [x1y]
 unfold q9l
 simp only [z5x h, Bool.false_eq_true, if_false]
 conv => lhs; unfold PM.bind
 rw [x7q h]
 rfl
theorem x0f {s : St} (hk : s.kind ≠ 4) (h : ∀ n lv ind ts rest, Tk ts (itS s ind) -> isT (tx [101, 108, 115, 101]) rest = false -> Rd (lv + nsS s) ((q2w q1v (n + 1)).stmt lv (ts ++ rest)) (Ss s) rest) : Sb s := by
 refine ⟨fun n lv ind ts rest ht hr => ?_, fun q => absurd q hk⟩
 cases n with
 | zero => exact .inl rfl
 | succ n => exact h n lv ind ts rest ht hr
theorem q7y {n lv : Nat} {t : Tok} {r : List Tok} {w : List UInt8} (h : tkT t = (2, w)) : (q2w q1v (n + 1)).stmt lv (t :: r) =
  if w = [105, 102] then (q2w q1v n).choice lv (t :: r)
  else if w = [119, 104, 105, 108, 101] then (q3b (q2w q1v n) lv).bind (fun e => ((q2w q1v n).block lv).bind fun l => .ret (.mk 5 ⟨#[]⟩ 0 [e] l [] t.at_ 0)) r
  else if w = [108, 101, 116] then q6a.bind (fun u => (q1y (tx [58])).bind fun _ => q2v.bind fun ty => (q1y (tx [61])).bind fun _ => (q3b (q2w q1v n) lv).bind fun e => q4p (.mk 1 u.text ty [e] [] [] t.at_ 0)) r
  else if w = [114, 101, 116, 117, 114, 110] then (if isT (tx [59]) r then q4p (.mk 6 ⟨#[]⟩ 0 [] [] [] t.at_ 0) r else (q3b (q2w q1v n) lv).bind (fun e => q4p (.mk 6 ⟨#[]⟩ 0 [e] [] [] t.at_ 0)) r)
  else q9l n (q2w q1v n) lv (t :: r) := by
 rw [x1y]
 by_cases h1 : w = [105, 102]
 ·rw [if_pos h1]; unfold q9l; simp only [q1j h, h1]; rfl
 rw [if_neg h1]
 by_cases h2 : w = [119, 104, 105, 108, 101]
 ·rw [if_pos h2]; unfold q9l; simp only [q1j h, h2, q4j h (show (2 : Int) ≠ 6 by decide)]; rfl
 rw [if_neg h2]
 by_cases h3 : w = [108, 101, 116]
 ·rw [if_pos h3]; unfold q9l; simp only [q1j h, h3, q4j h (show (2 : Int) ≠ 6 by decide)]; rfl
 rw [if_neg h3]
 by_cases h4 : w = [114, 101, 116, 117, 114, 110]
 ·rw [if_pos h4]; unfold q9l; simp only [q1j h, h4, q4j h (show (2 : Int) ≠ 6 by decide)]; rfl
 rw [if_neg h4]
theorem j7i {R : Prop} {s : St} (h : SOK R s) : Sb s := by
 induction h with
 | @lt s ty e a p h1 h2 he _ =>
  refine x0f (by show (1 : Int) ≠ 4; decide) (fun n lv ind ts rest ht hr => ?_)
  have ht2 : Tk ts ((2, [108, 101, 116]) :: (0, [32]) :: (1, toL s) :: (5, [58]) :: (0, [32]) :: (2, tyT ty) :: (0, [32]) :: (5, [61]) :: (0, [32]) :: (itE e ++ [(5, [59])])) := ht
  obtain ⟨u1, r1, rfl, g1, ht3⟩ := ht2.cons (by decide)
  obtain ⟨u2, r2, rfl, g2, ht4⟩ := ht3.blank.cons (by decide)
  obtain ⟨u3, r3, rfl, g3, ht5⟩ := ht4.cons (by decide)
  obtain ⟨u4, r4, rfl, g4, ht6⟩ := ht5.blank.cons (by decide)
  obtain ⟨u5, r5, rfl, g5, ht7⟩ := ht6.blank.cons (by decide)
  obtain ⟨t1, t2, rfl, k1, k2⟩ := ht7.blank.app
  obtain ⟨u6, r6, rfl, g6, ht8⟩ := k2.cons (by decide)
  obtain rfl := ht8.nil
  have e1 : u1 :: u2 :: u3 :: u4 :: u5 :: (t1 ++ [u6]) ++ rest = u1 :: u2 :: u3 :: u4 :: u5 :: (t1 ++ u6 :: rest) := by simp
  have en : nsS (.mk 1 s ty [e] [] [] a p) = nsE e := rfl
  rw [e1, q7y g1, if_neg (by decide), if_neg (by decide), if_pos rfl, en]
  refine z5y g2 (q3t g3 (.inr rfl) (q7x h2 g4 (q3t g5 (.inr rfl) (q9b he k1 g6 (by decide) (by decide) (by decide) (Nat.le_refl _) (fun x hx => z0y g6 ?_)))))
  show St.mk 1 u2.text ty [q2c x] [] [] 0 0 = .mk 1 s ty [q2c e] [] [] 0 0
  rw [q5h g2, hx]
 | @set s e a p h1 he _ =>
  refine x0f (by show (2 : Int) ≠ 4; decide) (fun n lv ind ts rest ht hr => ?_)
  have ht2 : Tk ts ((1, toL s) :: (0, [32]) :: (5, [61]) :: (0, [32]) :: (itE e ++ [(5, [59])])) := ht
  obtain ⟨u1, r1, rfl, g1, ht3⟩ := ht2.cons (by decide)
  obtain ⟨u2, r2, rfl, g2, ht4⟩ := ht3.blank.cons (by decide)
  obtain ⟨t1, t2, rfl, k1, k2⟩ := ht4.blank.app
  obtain ⟨u6, r6, rfl, g6, ht8⟩ := k2.cons (by decide)
  obtain rfl := ht8.nil
  have e1 : u1 :: u2 :: (t1 ++ [u6]) ++ rest = u1 :: u2 :: (t1 ++ u6 :: rest) := by simp
  have en : nsS (.mk 2 s 0 [e] [] [] a p) = nsE e := rfl
  rw [e1, z3p g1, en, q1j g2, q1j g2]
  refine q3t g2 (.inr rfl) (q9b he k1 g6 (by decide) (by decide) (by decide) (Nat.le_refl _) (fun x hx => z0y g6 ?_))
  show St.mk 2 u1.text 0 [q2c x] [] [] 0 0 = .mk 2 s 0 [q2c e] [] [] 0 0
  rw [q5h g1, hx]
 | @put s i e a p h1 hi he _ =>
  refine x0f (by show (3 : Int) ≠ 4; decide) (fun n lv ind ts rest ht hr => ?_)
  have ht2 : Tk ts ((1, toL s) :: (5, [91]) :: (itE i ++ (5, [93]) :: (0, [32]) :: (5, [61]) :: (0, [32]) :: (itE e ++ [(5, [59])]))) := ht
  obtain ⟨u1, r1, rfl, g1, ht3⟩ := ht2.cons (by decide)
  obtain ⟨u2, r2, rfl, g2, ht4⟩ := ht3.cons (by decide)
  obtain ⟨t1, t2, rfl, k1, k2⟩ := ht4.app
  obtain ⟨u3, r3, rfl, g3, ht5⟩ := k2.cons (by decide)
  obtain ⟨u4, r4, rfl, g4, ht6⟩ := ht5.blank.cons (by decide)
  obtain ⟨t3, t4, rfl, k3, k4⟩ := ht6.blank.app
  obtain ⟨u6, r6, rfl, g6, ht8⟩ := k4.cons (by decide)
  obtain rfl := ht8.nil
  have e1 : u1 :: u2 :: (t1 ++ u3 :: u4 :: (t3 ++ [u6])) ++ rest = u1 :: u2 :: (t1 ++ u3 :: u4 :: (t3 ++ u6 :: rest)) := by simp
  have en : nsS (.mk 3 s 0 [i, e] [] [] a p) = max (1 + nsE i) (nsE e) := rfl
  rw [e1, z3p g1, en, q1j g2, q1j g2]
  show Rd _ ((q4m (q2w q1v n) lv).bind _ _) _ _
  refine Rd.bind (N := lv + (1 + nsE i)) (P := fun l => ∃ y, l = [y] /\ Sm i y) (t1 := u4 :: (t3 ++ u6 :: rest)) ?_ (by omega) ?_
  ·unfold q4m
   refine q5o g2 g3 ?_
   exact q9b hi k1 g3 (by decide) (by decide) (by decide) (Nat.le_refl _) (fun x hx => Rd.ok ⟨x, rfl, hx⟩)
  ·rintro l ⟨y, rfl, hy⟩
   refine q3t g4 (.inr rfl) (q9b he k3 g6 (by decide) (by decide) (by decide) (by omega) (fun x hx => z0y g6 ?_))
   show St.mk 3 u1.text 0 [q2c y, q2c x] [] [] 0 0 = .mk 3 s 0 [q2c i, q2c e] [] [] 0 0
   rw [q5h g1, hx, hy]
 | @iff e b l a p he hb hl hbs hls _ ib il =>
  have key : ∀ n lv ind ts rest, Tk ts (itS (.mk 4 n0 0 [e] b l a p) ind) -> isT (tx [101, 108, 115, 101]) rest = false -> Rd (lv + nsS (.mk 4 n0 0 [e] b l a p)) ((q2w q1v n).choice lv (ts ++ rest)) (Ss (.mk 4 n0 0 [e] b l a p)) rest := by
   intro n lv ind ts rest ht hr
   have ht2 : Tk ts (((2, [105, 102]) :: (0, [32]) :: (itE e ++ z5t (z0g b) ind)) ++ (if l.length = 1 /\ (l.headD (.mk 0 ⟨#[]⟩ 0 [] [] [] 0 0)).kind = 4 then (0, [32]) :: (2, [101, 108, 115, 101]) :: (0, [32]) :: (z0g l).headD (fun _ => []) ind else if 0 < l.length then (0, [32]) :: (2, [101, 108, 115, 101]) :: z5t (z0g l) ind else [])) := ht
   have en : nsS (.mk 4 n0 0 [e] b l a p) = max (nsE e) (max (1 + (z7w b).foldr max 0) (if l.length = 0 then 0 else 1 + (z7w l).foldr max 0)) := rfl
   rw [en, z0k, z0k]
   obtain ⟨t1, t2, rfl, k1, k2⟩ := ht2.app
   have k1' : Tk t1 ((2, [105, 102]) :: (0, [32]) :: (itE e ++ z5t (z0g b) ind)) := k1
   obtain ⟨u1, r1, rfl, g1, ht3⟩ := k1'.cons (by decide)
   obtain ⟨t3, t4, rfl, k3, k4⟩ := ht3.blank.app
   have k4' : Tk t4 ((0, [32]) :: (5, [123]) :: (0, [10]) :: (z9y (ind + 1) (z0g b) ++ [(0, q2y ind), (5, [125])])) := k4
   obtain ⟨u2, r2, hu2, g2, _⟩ := k4'.blank.cons (by decide)
   cases n with
   | zero => exact .inl rfl
   | succ n =>
    have e1 : u1 :: (t3 ++ t4) ++ t2 ++ rest = u1 :: (t3 ++ (t4 ++ (t2 ++ rest))) := by simp
    rw [e1, x0e]
    unfold q6t
    refine q3t g1 (.inl rfl) ?_
    have e2 : t3 ++ (t4 ++ (t2 ++ rest)) = t3 ++ u2 :: (r2 ++ (t2 ++ rest)) := by rw [hu2]; rfl
    rw [e2]
    refine q9b he k3 g2 (by decide) (by decide) (by decide) (by omega) (fun x hx => ?_)
    have e3 : u2 :: (r2 ++ (t2 ++ rest)) = t4 ++ (t2 ++ rest) := by rw [hu2]; rfl
    rw [e3]
    refine Rd.bind (z2m hbs ib hb n lv ind t4 (t2 ++ rest) k4) (by omega) (fun y hy => ?_)
    by_cases h0 : 0 < l.length
    ·rw [if_neg (show ¬ l.length = 0 by omega)]
     have k2' : ∃ q, Tk t2 ((0, [32]) :: (2, [101, 108, 115, 101]) :: q) /\ q = (if l.length = 1 /\ (l.headD (.mk 0 ⟨#[]⟩ 0 [] [] [] 0 0)).kind = 4 then (0, [32]) :: (z0g l).headD (fun _ => []) ind else z5t (z0g l) ind) := by
      refine ⟨_, ?_, rfl⟩
      revert k2
      split
      ·exact fun k2 => k2
      ·exact fun k2 => k2
     obtain ⟨q, k5, hq⟩ := k2'
     obtain ⟨u3, r3, rfl, g3, k6⟩ := k5.blank.cons (by decide)
     refine Rd.bind (N := 0) (P := fun b => b = true) (t1 := r3 ++ rest) ?_ (Nat.zero_le _) ?_
     ·show Rd 0 (z4a _ (u3 :: (r3 ++ rest))) _ _
      rw [x1w g3 (by decide)]
      exact Rd.ok rfl
     ·rintro _ rfl
      rw [if_pos rfl]
      by_cases hc : l.length = 1 /\ (l.headD (.mk 0 ⟨#[]⟩ 0 [] [] [] 0 0)).kind = 4
      ·rw [if_pos hc] at hq
       rw [hq] at k6
       have k7 := k6.blank
       match l, hc, hls, il, k7 with
       | [s], hc, hls, il, k7 =>
        have k8 : Tk r3 (itS s ind) := k7
        obtain ⟨th, tr, he', hh⟩ := hdS (hls s (by simp)) ind r3 k8
        have hif : isT (tx [105, 102]) (r3 ++ rest) = true := by
         have hsk : s.kind = 4 := hc.2
         have k9 : ∃ q, Tk r3 ((2, [105, 102]) :: q) := by
          have hs4 := hls s (by simp)
          cases hs4 with
          | iff _ _ _ _ _ _ => exact ⟨_, k8⟩
          | _ => exact absurd hsk (by simp [St.kind])
         obtain ⟨q, k9⟩ := k9
         obtain ⟨v, r, rfl, g, _⟩ := k9.cons (by decide)
         show isT _ (v :: (r ++ rest)) = true
         rw [q1j g]; rfl
        rw [hif, if_pos rfl]
        have em : ([s].map nsS).foldr max 0 = nsS s := by show max (nsS s) 0 = nsS s; omega
        rw [em]
        refine Rd.bind (N := lv + (1 + nsS s)) (P := Ss s) (t1 := rest) ?_ (by omega) (fun z hz => Rd.ok ?_)
        ·unfold q1x
         by_cases h30 : lv = 30
         ·rw [if_pos h30]; exact .inr (.inr ⟨by omega, _, rfl⟩)
         ·rw [if_neg h30]
          exact ((il s (by simp)).choice hc.2 n (lv + 1) ind r3 rest k8 hr).mono (by omega) (fun _ q => q)
        ·show St.mk 4 n0 0 [q2c x] (q2h y) [q6s z] 0 0 = .mk 4 n0 0 [q2c e] (q2h b) [q6s s] 0 0
         rw [hx, hy, hz]
      ·rw [if_neg hc] at hq
       rw [hq] at k6
       have k6' : Tk r3 ((0, [32]) :: (5, [123]) :: (0, [10]) :: (z9y (ind + 1) (z0g l) ++ [(0, q2y ind), (5, [125])])) := k6
       obtain ⟨u4, r4, hu4, g4, _⟩ := k6'.blank.cons (by decide)
       have hif : isT (tx [105, 102]) (r3 ++ rest) = false := by
        rw [hu4]
        show isT _ (u4 :: (r4 ++ rest)) = false
        rw [q1j g4]; rfl
       rw [hif]
       simp only [Bool.false_eq_true, if_false]
       refine Rd.bind (z2m hls il hl n lv ind r3 rest k6) (by omega) (fun z hz => Rd.ok ?_)
       show St.mk 4 n0 0 [q2c x] (q2h y) (q2h z) 0 0 = .mk 4 n0 0 [q2c e] (q2h b) (q2h l) 0 0
       rw [hx, hy, hz]
    ·have hl0 : l = [] := List.length_eq_zero_iff.1 (by omega)
     subst hl0
     obtain rfl : t2 = [] := Tk.nil (by simpa using k2)
     rw [List.nil_append]
     refine Rd.bind (N := 0) (P := fun b => b = false) (t1 := rest) ?_ (Nat.zero_le _) ?_
     ·unfold z4a
      rw [hr]
      exact Rd.ok rfl
     ·rintro _ rfl
      simp only [Bool.false_eq_true, if_false]
      refine Rd.ok ?_
      show St.mk 4 n0 0 [q2c x] (q2h y) [] 0 0 = .mk 4 n0 0 [q2c e] (q2h b) [] 0 0
      rw [hx, hy]
  refine ⟨fun n lv ind ts rest ht hr => ?_, fun _ => key⟩
  have ht2 : ∃ q, Tk ts ((2, [105, 102]) :: q) := ⟨_, ht⟩
  obtain ⟨q, ht2⟩ := ht2
  obtain ⟨u1, r1, e1, g1, _⟩ := ht2.cons (by decide)
  cases n with
  | zero => exact .inl rfl
  | succ n =>
   have e2 : (q2w q1v (n + 1)).stmt lv (ts ++ rest) = (q2w q1v n).choice lv (ts ++ rest) := by
    rw [e1]
    show (q2w q1v (n + 1)).stmt lv (u1 :: (r1 ++ rest)) = _
    rw [q7y g1, if_pos rfl]; rfl
   rw [e2]
   exact key n lv ind ts rest ht hr
 | @whl e b a p he hb hbs _ ib =>
  refine x0f (by show (5 : Int) ≠ 4; decide) (fun n lv ind ts rest ht hr => ?_)
  have ht2 : Tk ts ((2, [119, 104, 105, 108, 101]) :: (0, [32]) :: (itE e ++ z5t (z0g b) ind)) := ht
  have en : nsS (.mk 5 n0 0 [e] b [] a p) = max (nsE e) (1 + (z7w b).foldr max 0) := rfl
  rw [en, z0k]
  obtain ⟨u1, r1, rfl, g1, ht3⟩ := ht2.cons (by decide)
  obtain ⟨t3, t4, rfl, k3, k4⟩ := ht3.blank.app
  have k4' : Tk t4 ((0, [32]) :: (5, [123]) :: (0, [10]) :: (z9y (ind + 1) (z0g b) ++ [(0, q2y ind), (5, [125])])) := k4
  obtain ⟨u2, r2, hu2, g2, _⟩ := k4'.blank.cons (by decide)
  have e1 : u1 :: (t3 ++ t4) ++ rest = u1 :: (t3 ++ u2 :: (r2 ++ rest)) := by rw [hu2]; simp
  rw [e1, q7y g1, if_neg (by decide), if_pos rfl]
  refine q9b he k3 g2 (by decide) (by decide) (by decide) (by omega) (fun x hx => ?_)
  have e3 : u2 :: (r2 ++ rest) = t4 ++ rest := by rw [hu2]; rfl
  rw [e3]
  refine Rd.bind (z2m hbs ib hb n lv ind t4 rest k4) (by omega) (fun y hy => Rd.ok ?_)
  show St.mk 5 n0 0 [q2c x] (q2h y) [] 0 0 = .mk 5 n0 0 [q2c e] (q2h b) [] 0 0
  rw [hx, hy]
 | @ret0 a p _ =>
  refine x0f (by show (6 : Int) ≠ 4; decide) (fun n lv ind ts rest ht hr => ?_)
  have ht2 : Tk ts ((2, [114, 101, 116, 117, 114, 110]) :: (5, [59]) :: []) := ht
  obtain ⟨u1, r1, rfl, g1, ht3⟩ := ht2.cons (by decide)
  obtain ⟨u2, r2, rfl, g2, ht4⟩ := ht3.cons (by decide)
  obtain rfl := ht4.nil
  show Rd _ ((q2w q1v (n + 1)).stmt lv (u1 :: (u2 :: rest))) _ _
  rw [q7y g1, if_neg (by decide), if_neg (by decide), if_neg (by decide), if_pos rfl, q1j g2]
  exact z0y g2 rfl
 | @ret e a p he _ =>
  refine x0f (by show (6 : Int) ≠ 4; decide) (fun n lv ind ts rest ht hr => ?_)
  have ht2 : Tk ts ((2, [114, 101, 116, 117, 114, 110]) :: (0, [32]) :: (itE e ++ [(5, [59])])) := ht
  obtain ⟨u1, r1, rfl, g1, ht3⟩ := ht2.cons (by decide)
  obtain ⟨t3, t4, rfl, k3, k4⟩ := ht3.blank.app
  obtain ⟨u6, r6, rfl, g6, ht8⟩ := k4.cons (by decide)
  obtain rfl := ht8.nil
  have e1 : u1 :: (t3 ++ [u6]) ++ rest = u1 :: (t3 ++ u6 :: rest) := by simp
  have en : nsS (.mk 6 n0 0 [e] [] [] a p) = nsE e := rfl
  rw [e1, q7y g1, if_neg (by decide), if_neg (by decide), if_neg (by decide), if_pos rfl, en]
  obtain ⟨th, tr, he', hh⟩ := hdE he t3 k3
  have hs : isT (tx [59]) (t3 ++ u6 :: rest) = false := by rw [he']; exact hh _ _ (.inr rfl)
  rw [hs]
  simp only [Bool.false_eq_true, if_false]
  refine q9b he k3 g6 (by decide) (by decide) (by decide) (Nat.le_refl _) (fun x hx => z0y g6 ?_)
  show St.mk 6 n0 0 [q2c x] [] [] 0 0 = .mk 6 n0 0 [q2c e] [] [] 0 0
  rw [hx]
 | @call e a p hk he _ =>
  refine x0f (by show (7 : Int) ≠ 4; decide) (fun n lv ind ts rest ht hr => ?_)
  cases he with
  | @call s l a2 t2 p2 hn hlen hall _ =>
   have ht2 : Tk ts (((1, toL s) :: (5, [40]) :: (z8i (x8m l) false ++ [(5, [41])])) ++ [(5, [59])]) := ht
   have en : nsS (.mk 7 n0 0 [.mk 7 0 0 s l a2 t2 p2] [] [] a p) = 1 + (x0d l).foldr max 0 := rfl
   rw [en, z5w]
   obtain ⟨t1, t3, rfl, k1, k2⟩ := ht2.app
   obtain ⟨u1, r1, rfl, g1, ht3⟩ := k1.cons (by decide)
   obtain ⟨u2, r2, rfl, g2, ht4⟩ := ht3.cons (by decide)
   obtain ⟨t4, t5, rfl, k3, k4⟩ := ht4.app
   obtain ⟨u3, r3, rfl, g3, ht5⟩ := k4.cons (by decide)
   obtain rfl := ht5.nil
   obtain ⟨u6, r6, rfl, g6, ht8⟩ := k2.cons (by decide)
   obtain rfl := ht8.nil
   rw [z0f] at k3
   have e1 : u1 :: u2 :: (t4 ++ [u3]) ++ [u6] ++ rest = u1 :: u2 :: (t4 ++ u3 :: (u6 :: rest)) := by simp
   rw [e1, z3p g1, q1j g2]
   show Rd _ ((q8k n (q2w q1v n) lv u1).bind _ _) _ _
   refine Rd.bind (N := lv + (1 + (l.map nsE).foldr max 0)) (P := fun y => q2c y = .mk 7 0 0 s (q2t l) 0 0 0) (t1 := u6 :: rest) ?_ (Nat.le_refl _) (fun y hy => z0y g6 ?_)
   ·unfold q8k
    refine Rd.bind (N := lv + (1 + (l.map nsE).foldr max 0)) (P := fun y => q2t y = q2t l) (t1 := u6 :: rest) ?_ (Nat.le_refl _) (fun y hy => Rd.ok ?_)
    ·refine q5o g2 g3 ?_
     exact (x7p l hall (fun x hx => j2s (hall x hx)) n n (lv + 1) [] t4 (u6 :: rest) u3 g3 k3).mono (Nat.le_refl _) (fun x ⟨y, h3, h4⟩ => by rw [h3]; exact h4)
    ·rw [q5h g1]
     show Ex.mk 7 0 0 s (q2t y) 0 0 0 = _
     rw [hy]
   ·show St.mk 7 n0 0 [q2c y] [] [] 0 0 = .mk 7 n0 0 [.mk 7 0 0 s (q2t l) 0 0 0] [] [] 0 0
    rw [hy]
  | _ => exact absurd hk (by simp [Ex.kind])
end Go.Proofs.YtpfdhihbecpbeaaGreatDoor.E
